-- Written by wip/xprint.py of this work: the printer of the kit, with contracts of this work beside it, shortened.
import Derived.Test.YtjcopneljfcfoaaDoorShort
import Derived.Test.YtjcopneljfcfoaaDoorPRawx0
import Derived.Test.YtjcopneljfcfoaaDoorPRawx8
import Derived.Test.YtjcopneljfcfoaaDoorPRawx11
namespace Go.Proofs.YtjcopneljfcfoaaDoor.PRaw
open Go.RowKit Go.Proofs.YtjcopneljfcfoaaDoor.Short Go.Proofs.YtjcopneljfcfoaaDoorW.PrintWords Go.Proofs.YtjcopneljfcfoaaDoorW.PrintLast Go.Proofs.YtjcopneljfcfoaaDoorW.PrintMore
attribute [local go_sem] max2_int min2_int max_two min_two max_three min_three max_four min_four   -- for this text's walks alone
set_option linter.unusedVariables false
set_option linter.unusedSimpArgs false

/-! ### maquettelaw07_awake: function 8 -/
def maquettelaw07_awake.f (k : Nat)  : Option (Bool) := (text_Clause.f k true 0 0 5 0 true 0 0 0 0).bind fun t121 => (if t121.toList = ([9, 105, 102, 32, 97, 110, 121, 32, 119, 105, 116, 104, 32, 48, 32, 50, 32, 116, 104, 101, 110, 32, 100, 114, 111, 112, 59, 10] : List UInt8) then ((text_Config.f k (([(⟨(⟨#[109]⟩ : ByteArray), ([] : List (S41)), 0⟩ : S36)] : List (S36))) ([] : List (S46))).bind fun t125 => (some (t125.toList == ([109, 97, 112, 32, 109, 32, 123, 10, 125, 10] : List UInt8)))) else (some false))
theorem maquettelaw07_awake.mono : ∀ k, LeO (maquettelaw07_awake.f k ) (maquettelaw07_awake.f (k + 1) ) := by
 intro  k
 unfold maquettelaw07_awake.f
 repeat' first
   | (with_reducible exact text_Clause.mono _ _ _ _ _ _ _ _ _ _ _)
   | (with_reducible exact text_Config.mono _ _ _)
   | (with_reducible exact LeO.refl _)
   | (with_reducible exact LeO.none _)
   | (with_reducible refine LeO.ite ?_ ?_)
   | (with_reducible refine LeO.bind ?_ (fun _ => ?_))
   | exact text_Clause.mono _ _ _ _ _ _ _ _ _ _ _
   | exact text_Config.mono _ _ _
   | exact LeO.none _
   | refine LeO.ite ?_ ?_
   | refine LeO.bind ?_ (fun _ => ?_)
set_option maxHeartbeats 8000000 in
set_option maxRecDepth 100000 in
theorem maquettelaw07_awake.calls (k : Nat)  (r : Bool) (w : World) (h : maquettelaw07_awake.f k  = some r) (hInv : Go.Proofs.YtjcopneljfcfoaaDoor.Inv.Inv w) :
  Calls Tryd.prog 8 #[] w fun e w' => e = .returned (.bool r) ∧ Below w.heap.size w w' := by
 have hu41 := Tryd.underlying41
 have hu36 := Tryd.underlying36
 have hu30 := Tryd.underlying30
 have HB := Aside0.mk (Below.refl w.heap.size w)
 have H : ((text_Clause.f k true 0 0 5 0 true 0 0 0 0).bind fun t121 => (if t121.toList = ([9, 105, 102, 32, 97, 110, 121, 32, 119, 105, 116, 104, 32, 48, 32, 50, 32, 116, 104, 101, 110, 32, 100, 114, 111, 112, 59, 10] : List UInt8) then ((text_Config.f k (([(⟨(⟨#[109]⟩ : ByteArray), ([] : List (S41)), 0⟩ : S36)] : List (S36))) ([] : List (S46))).bind fun t125 => (some (t125.toList == ([109, 97, 112, 32, 109, 32, 123, 10, 125, 10] : List UInt8)))) else (some false))) = some r := h
 clear h
 replace H := Option.bind_eq_some_iff.mp H
 obtain ⟨t121, A10, H⟩ := H
 replace H : (if t121.toList = ([9, 105, 102, 32, 97, 110, 121, 32, 119, 105, 116, 104, 32, 48, 32, 50, 32, 116, 104, 101, 110, 32, 100, 114, 111, 112, 59, 10] : List UInt8) then ((text_Config.f k (([(⟨(⟨#[109]⟩ : ByteArray), ([] : List (S41)), 0⟩ : S36)] : List (S36))) ([] : List (S46))).bind fun t125 => (some (t125.toList == ([109, 97, 112, 32, 109, 32, 123, 10, 125, 10] : List UInt8)))) else (some false)) = some r := H
 have A1 := Aside0.mk A10
 clear A10
 by_cases c2 : t121.toList = ([9, 105, 102, 32, 97, 110, 121, 32, 119, 105, 116, 104, 32, 48, 32, 50, 32, 116, 104, 101, 110, 32, 100, 114, 111, 112, 59, 10] : List UInt8)
 ·rw [if_pos c2] at H
  have c2b0 : (t121.toList == ([9, 105, 102, 32, 97, 110, 121, 32, 119, 105, 116, 104, 32, 48, 32, 50, 32, 116, 104, 101, 110, 32, 100, 114, 111, 112, 59, 10] : List UInt8)) = true := beq_iff_eq.mpr c2
  have c2b1 : (t121.toList != ([9, 105, 102, 32, 97, 110, 121, 32, 119, 105, 116, 104, 32, 48, 32, 50, 32, 116, 104, 101, 110, 32, 100, 114, 111, 112, 59, 10] : List UInt8)) = false := bne_eq_false_iff_eq.mpr c2
  clear c2
  obtain ⟨y122, hy122⟩ : ∃ y_ : List (S36), y_ = (([(⟨(⟨#[109]⟩ : ByteArray), ([] : List (S41)), 0⟩ : S36)] : List (S36))) := ⟨_, rfl⟩
  replace H : ((text_Config.f k y122 ([] : List (S46))).bind fun t125 => (some (t125.toList == ([109, 97, 112, 32, 109, 32, 123, 10, 125, 10] : List UInt8)))) = some r := by first | (rw [hy122]; with_reducible exact H) | (have H2_ := (Option.bind_some _ _).symm.trans H; rw [hy122]; with_reducible exact H2_) | (have H2_ := (Option.bind_some _ _).symm.trans H; with_reducible exact H2_) | with_reducible exact H | (rw [hy122]; exact H) | exact H
  have Ny122 := Aside0.mk hy122
  clear hy122
  replace H := Option.bind_eq_some_iff.mp H
  obtain ⟨t125, A30, H⟩ := H
  replace H : (some (t125.toList == ([109, 97, 112, 32, 109, 32, 123, 10, 125, 10] : List UInt8))) = some r := H
  have A3 := Aside0.mk A30
  clear A30
  obtain rfl := Option.some.inj H
  go_enter Tryd.func8, Tryd.ntmps8
  go_wp2_with (first | ((with_reducible refine gate_dst (N := 2) rfl ?_); refine gl (some 2) Tryd.func13 #[.agg #[.bool true, .int .u32 0, .int .i64 0, .int .u8 5, .int .u8 0, .bool true, .int .u8 0, .int .u8 0, .int .i64 0, .int .i64 0]] ?_; (with_reducible refine (text_Clause.calls k true 0 0 5 0 true 0 0 0 0 t121 _ A1.out (Go.Proofs.YtjcopneljfcfoaaDoor.Inv.ivb hInv)).mono ?_); rintro e w4 ⟨rfl, hb⟩; refine ⟨_, rfl, ?_⟩; replace HB := bst hb; (try clear hb); (try clear hb2); (try clear hk); (try clear hi)) | ((with_reducible refine gate_dst (N := 6) rfl ?_); (try (refine gate_guard (by rfl) ?_; dsimp only)); refine Kd.S_lit k36 _ 36 ?hg (N := 6) ?hd (xs := ([(⟨(⟨#[109]⟩ : ByteArray), ([] : List (S41)), 0⟩ : S36)] : List (S36))) (inner := [.string (⟨#[109]⟩ : ByteArray), .slice none 0 0, .int .i64 0]) (ok := fun _ => True) (okp := fun _ => True) ?hr ?hp (fun _ hk => hk) trivial (Below.refl _ _) (Nat.le_refl _) (by simp) ?_; (case hd => rfl); (case hg => rfl); (case hr => first | (go_simp; done) | (go_simp; rfl)); (case hp => exact (Reps.c3 (show Kd.M k36 _ _ _ (⟨(⟨#[109]⟩ : ByteArray), ([] : List (S41)), 0⟩ : S36) [.string (⟨#[109]⟩ : ByteArray), .slice none 0 0, .int .i64 0] from (k36_mkM _ _ _ (⟨(⟨#[109]⟩ : ByteArray), ([] : List (S41)), 0⟩ : S36) (Kd.R_nil _ _ _ _ _))) (Reps.none _ _))); intro v123 w5 ho6 hb hg_ hnew_; clear hg_ hnew_; (first | rw [← Ny122.out] at ho6 | (simp only [Int.reduceToNat] at ho6; rw [← Ny122.out] at ho6)); have HO124 := Aside0.mk (Kd.S_lower ho6 (below_size bel)); replace HB := bst hb; clear hb ho6; obtain ⟨Ao7, co7, eo7⟩ := Kd.S_slice HO124.out; subst eo7) | (go_at_call 10; (refine (text_Config.calls k _ _ y122 _ _ ([] : List (S46)) t125 _ ?side1 ?side2 ?side3 ?side4 A3.out (Go.Proofs.YtjcopneljfcfoaaDoor.Inv.ivb hInv)).mono ?_); (case side1 => repeat (first | exact (Kd.S_reads' HO124.out).2.2 | (with_reducible refine Kd.C_alloc ?_ _) | (with_reducible refine Kd.C_drewN ?_ _) | (with_reducible refine Kd.C_drew ?_))); (case side2 => exact (Kd.S_reads' HO124.out).2.1); (case side3 => exact Kd.C_nil _ _); (case side4 => exact Nat.le_refl _); rintro e w8 ⟨rfl, hb⟩; replace HO124 := Aside0.mk (Kd.S_below (kS HO124) hb); replace HB := bst hb; (try clear hb); (try clear hb2); (try clear hk); (try clear hi)))
  go_ret
  exact ⟨by first | rfl | (simp [errW_none, errW_some] <;> rfl) | (simp [*, errW_none, errW_some] <;> rfl), by repeat (first | (with_reducible first | exact HB.out | apply below_alloc | apply pw_below_drewN | apply below_drew1) | exact HB.out)⟩
 ·rw [if_neg c2] at H
  have c2b0 : (t121.toList == ([9, 105, 102, 32, 97, 110, 121, 32, 119, 105, 116, 104, 32, 48, 32, 50, 32, 116, 104, 101, 110, 32, 100, 114, 111, 112, 59, 10] : List UInt8)) = false := beq_eq_false_iff_ne.mpr c2
  have c2b1 : (t121.toList != ([9, 105, 102, 32, 97, 110, 121, 32, 119, 105, 116, 104, 32, 48, 32, 50, 32, 116, 104, 101, 110, 32, 100, 114, 111, 112, 59, 10] : List UInt8)) = true := bne_iff_ne.mpr c2
  obtain rfl := Option.some.inj H
  go_enter Tryd.func8, Tryd.ntmps8
  go_wp2_with (first | ((with_reducible refine gate_dst (N := 2) rfl ?_); refine gl (some 2) Tryd.func13 #[.agg #[.bool true, .int .u32 0, .int .i64 0, .int .u8 5, .int .u8 0, .bool true, .int .u8 0, .int .u8 0, .int .i64 0, .int .i64 0]] ?_; (with_reducible refine (text_Clause.calls k true 0 0 5 0 true 0 0 0 0 t121 _ A1.out (Go.Proofs.YtjcopneljfcfoaaDoor.Inv.ivb hInv)).mono ?_); rintro e w9 ⟨rfl, hb⟩; refine ⟨_, rfl, ?_⟩; replace HB := bst hb; (try clear hb); (try clear hb2); (try clear hk); (try clear hi)))
  go_ret
  exact ⟨by first | rfl | (simp [errW_none, errW_some] <;> rfl) | (simp [*, errW_none, errW_some] <;> rfl), by repeat (first | (with_reducible first | exact HB.out | apply below_alloc | apply pw_below_drewN | apply below_drew1) | exact HB.out)⟩

end Go.Proofs.YtjcopneljfcfoaaDoor.PRaw
