-- Written by wip/xprint.py of this work: the printer of the kit, with contracts of this work beside it, shortened.
import Derived.Test.YtkhbpjhlekldpaaShort
import Derived.Test.YtkhbpjhlekldpaaPLiftx0
import Derived.Test.YtkhbpjhlekldpaaPLiftx2
import Derived.Test.YtkhbpjhlekldpaaPLiftx17
import Derived.Test.YtkhbpjhlekldpaaPLiftx18
namespace Go.Proofs.Ytkhbpjhlekldpaa.PLift
open Go.RowKit Go.Proofs.Ytkhbpjhlekldpaa.Short Go.Proofs.YtkhbpjhlekldpaaW.PrintWords Go.Proofs.YtkhbpjhlekldpaaW.PrintLast Go.Proofs.YtkhbpjhlekldpaaW.PrintMore
attribute [local go_sem] max2_int min2_int max_two min_two max_three min_three max_four min_four   -- for this text's walks alone
set_option linter.unusedVariables false
set_option linter.unusedSimpArgs false

/-! ### maquettelaw23_LiftOwn: function 7 -/
mutual
def maquettelaw23_LiftOwn.j0 : Nat → List (S64) → Int → List (S64) → Bool → Option (Bool)
 | 0, _, _, _, _ => none
 | k + 1, x0, x5, x6, x44 => if x44 = true then (some false) else (if 0 < (x6.length : Int) then (maquettelaw23_LiftOwn.l0 k x0 x5 x6 (((rd_T64 x6 0).f2).length : Int) 0) else (none))
def maquettelaw23_LiftOwn.l0 : Nat → List (S64) → Int → List (S64) → Int → Int → Option (Bool)
 | 0, _, _, _, _, _ => none
 | k + 1, x0, x5, x6, x49, x50 => if x50 < x49 then (if 0 < (x6.length : Int) then (if 0 ≤ x50 then (if x50 < (((rd_T64 x6 0).f2).length : Int) then (maquettelaw23_LiftOwn.l0 k x0 x5 (x6.set (0 : Int).toNat (⟨(rd_T64 x6 0).f0, (rd_T64 x6 0).f1, (((rd_T64 x6 0).f2).set (x50 : Int).toNat (wrap64 ((rd ((rd_T64 x6 0).f2) x50) + 1)))⟩ : S64)) x49 (wrap64 (x50 + 1))) else (none)) else (none)) else (none)) else (if 1 < (x6.length : Int) then (if 0 ≤ x5 then (if x5 < (x0.length : Int) then ((lift_Same.f k ((rd_T64 x6 1).f0) ((rd_T64 x6 1).f1) ((rd_T64 x6 1).f2) ((rd_T64 x0 x5).f0) ((rd_T64 x0 x5).f1) ((rd_T64 x0 x5).f2)).bind fun t268 => (some t268)) else (none)) else (none)) else (none))
end
def maquettelaw23_LiftOwn.f (k : Nat) (l0 : List (S64)) (a1 : Int) : Option (Bool) := (maquettelaw23_awake.f k).bind fun t245 => (if t245 = true then (if (l0.length : Int) = 0 then ((lift_Up.f k (([0] : List Int)) l0).bind fun t249 => (some ((t249.length : Int) == 1))) else ((lift_Up.f k (([Int.tmod (wrap64 (a1)) (l0.length : Int), Int.tmod (wrap64 (a1)) (l0.length : Int)] : List Int)) l0).bind fun t255 => (if (t255.length : Int) = 2 then (if 0 < (t255.length : Int) then (if 0 ≤ (Int.tmod (wrap64 (a1)) (l0.length : Int)) then (if (Int.tmod (wrap64 (a1)) (l0.length : Int)) < (l0.length : Int) then (maquettelaw23_LiftOwn.j0 k l0 (Int.tmod (wrap64 (a1)) (l0.length : Int)) t255 ((((rd_T64 t255 0).f2).length : Int) != (((rd_T64 l0 (Int.tmod (wrap64 (a1)) (l0.length : Int))).f2).length : Int))) else (none)) else (none)) else (none)) else (maquettelaw23_LiftOwn.j0 k l0 (Int.tmod (wrap64 (a1)) (l0.length : Int)) t255 true)))) else (some false))
theorem maquettelaw23_LiftOwn.mono_l : ∀ k, (∀ y0 y1 y2 y3, LeO (maquettelaw23_LiftOwn.j0 k y0 y1 y2 y3) (maquettelaw23_LiftOwn.j0 (k + 1) y0 y1 y2 y3)) ∧ (∀ y0 y1 y2 y3 y4, LeO (maquettelaw23_LiftOwn.l0 k y0 y1 y2 y3 y4) (maquettelaw23_LiftOwn.l0 (k + 1) y0 y1 y2 y3 y4))
 | 0 => ⟨fun _ _ _ _ r h => by simp [maquettelaw23_LiftOwn.j0] at h, fun _ _ _ _ _ r h => by simp [maquettelaw23_LiftOwn.l0] at h⟩
 | k + 1 => by
  obtain ⟨ih0, ih1⟩ := maquettelaw23_LiftOwn.mono_l k
  refine ⟨?_, ?_⟩
  ·intro y0 y1 y2 y3
   unfold maquettelaw23_LiftOwn.j0
   repeat' first
   | (with_reducible exact ih0 _ _ _ _)
   | (with_reducible exact ih1 _ _ _ _ _)
   | (with_reducible exact lift_Same.mono _ _ _ _ _ _ _)
   | (with_reducible exact lift_Up.mono _ _ _)
   | (with_reducible exact maquettelaw23_awake.mono _)
   | (with_reducible exact LeO.refl _)
   | (with_reducible exact LeO.none _)
   | (with_reducible refine LeO.ite ?_ ?_)
   | (with_reducible refine LeO.bind ?_ (fun _ => ?_))
   | exact ih0 _ _ _ _
   | exact ih1 _ _ _ _ _
   | exact lift_Same.mono _ _ _ _ _ _ _
   | exact lift_Up.mono _ _ _
   | exact maquettelaw23_awake.mono _
   | exact LeO.none _
   | refine LeO.ite ?_ ?_
   | refine LeO.bind ?_ (fun _ => ?_)
  ·intro y0 y1 y2 y3 y4
   unfold maquettelaw23_LiftOwn.l0
   repeat' first
   | (with_reducible exact ih0 _ _ _ _)
   | (with_reducible exact ih1 _ _ _ _ _)
   | (with_reducible exact lift_Same.mono _ _ _ _ _ _ _)
   | (with_reducible exact lift_Up.mono _ _ _)
   | (with_reducible exact maquettelaw23_awake.mono _)
   | (with_reducible exact LeO.refl _)
   | (with_reducible exact LeO.none _)
   | (with_reducible refine LeO.ite ?_ ?_)
   | (with_reducible refine LeO.bind ?_ (fun _ => ?_))
   | exact ih0 _ _ _ _
   | exact ih1 _ _ _ _ _
   | exact lift_Same.mono _ _ _ _ _ _ _
   | exact lift_Up.mono _ _ _
   | exact maquettelaw23_awake.mono _
   | exact LeO.none _
   | refine LeO.ite ?_ ?_
   | refine LeO.bind ?_ (fun _ => ?_)
theorem maquettelaw23_LiftOwn.mono : ∀ a0 a1 k, LeO (maquettelaw23_LiftOwn.f k a0 a1) (maquettelaw23_LiftOwn.f (k + 1) a0 a1) := by
 intro a0 a1 k
 obtain ⟨ih0, ih1⟩ := maquettelaw23_LiftOwn.mono_l k
 unfold maquettelaw23_LiftOwn.f
 repeat' first
   | (with_reducible exact ih0 _ _ _ _)
   | (with_reducible exact ih1 _ _ _ _ _)
   | (with_reducible exact lift_Same.mono _ _ _ _ _ _ _)
   | (with_reducible exact lift_Up.mono _ _ _)
   | (with_reducible exact maquettelaw23_awake.mono _)
   | (with_reducible exact LeO.refl _)
   | (with_reducible exact LeO.none _)
   | (with_reducible refine LeO.ite ?_ ?_)
   | (with_reducible refine LeO.bind ?_ (fun _ => ?_))
   | exact ih0 _ _ _ _
   | exact ih1 _ _ _ _ _
   | exact lift_Same.mono _ _ _ _ _ _ _
   | exact lift_Up.mono _ _ _
   | exact maquettelaw23_awake.mono _
   | exact LeO.none _
   | refine LeO.ite ?_ ?_
   | refine LeO.bind ?_ (fun _ => ?_)
def maquettelaw23_LiftOwn.T7 : Bool × List (List Nat × List Nat) := (true, [([], []), ([0], [0]), ([1], [1]), ([2], [2]), ([3], [3]), ([4, 3], [3, 4]), ([5, 3], [3, 5]), ([6, 3], [3, 6]), ([7, 3], [3, 7]), ([3], [3]), ([3], [3]), ([9, 10, 3], [3, 9, 10]), ([11, 3], [3, 11]), ([12, 3], [3, 12]), ([13, 3], [3, 13]), ([8, 14, 3], [3, 8, 14]), ([3, 15], [3, 15])])
def maquettelaw23_LiftOwn.B7 : List Nat := [0, 1, 3, 7, 15, 31, 63, 127, 255, 15, 15, 1551, 3599, 7695, 15887, 32767, 65535]
theorem maquettelaw23_LiftOwn.tab7 : rtab .any (opsOf Try.f7 7) = maquettelaw23_LiftOwn.T7 := by kernel_rfl
theorem maquettelaw23_LiftOwn.bits7 : waitsOk maquettelaw23_LiftOwn.T7.2 maquettelaw23_LiftOwn.B7 = true := by kernel_rfl
def maquettelaw23_LiftOwn.T14 : Bool × List (List Nat × List Nat) := (true, [([], []), ([0], [0]), ([1], [1]), ([], []), ([], []), ([3, 4], [3, 4]), ([5], [5]), ([2, 6], [2, 6]), ([7, 7, 0, 1, 2, 3, 4, 5, 6, 7], [7])])
def maquettelaw23_LiftOwn.B14 : List Nat := [0, 1, 3, 0, 0, 24, 56, 127, 255]
theorem maquettelaw23_LiftOwn.tab14 : rtab .any (opsOf Try.f7 14) = maquettelaw23_LiftOwn.T14 := by kernel_rfl
theorem maquettelaw23_LiftOwn.bits14 : waitsOk maquettelaw23_LiftOwn.T14.2 maquettelaw23_LiftOwn.B14 = true := by kernel_rfl
set_option maxHeartbeats 8000000 in
set_option maxRecDepth 100000 in
theorem maquettelaw23_LiftOwn.calls (k : Nat) (A0 : Option Addr) (c0 : Nat) (l0 : List (S64)) (a1 : Int) (r : Bool) (w : World) (hr0 : Kd.C k64 w A0 l0.length l0) (hc0 : l0.length ≤ c0) (h : maquettelaw23_LiftOwn.f k l0 a1 = some r) :
  Calls Try.prog 7 #[.slice A0 l0.length c0, .int .u8 a1] w fun e w' => e = .returned (.bool r) ∧ Below w.heap.size w w' := by
 have hu64 := Try.underlying64
 have HR0 := Aside0.mk hr0
 have HC0 := Aside0.mk hc0
 clear hr0 hc0
 have HB := Aside0.mk (Below.refl w.heap.size w)
 have H : ((maquettelaw23_awake.f k).bind fun t245 => (if t245 = true then (if (l0.length : Int) = 0 then ((lift_Up.f k (([0] : List Int)) l0).bind fun t249 => (some ((t249.length : Int) == 1))) else ((lift_Up.f k (([Int.tmod (wrap64 (a1)) (l0.length : Int), Int.tmod (wrap64 (a1)) (l0.length : Int)] : List Int)) l0).bind fun t255 => (if (t255.length : Int) = 2 then (if 0 < (t255.length : Int) then (if 0 ≤ (Int.tmod (wrap64 (a1)) (l0.length : Int)) then (if (Int.tmod (wrap64 (a1)) (l0.length : Int)) < (l0.length : Int) then (maquettelaw23_LiftOwn.j0 k l0 (Int.tmod (wrap64 (a1)) (l0.length : Int)) t255 ((((rd_T64 t255 0).f2).length : Int) != (((rd_T64 l0 (Int.tmod (wrap64 (a1)) (l0.length : Int))).f2).length : Int))) else (none)) else (none)) else (none)) else (maquettelaw23_LiftOwn.j0 k l0 (Int.tmod (wrap64 (a1)) (l0.length : Int)) t255 true)))) else (some false))) = some r := h
 clear h
 replace H := Option.bind_eq_some_iff.mp H
 obtain ⟨t245, A30, H⟩ := H
 replace H : (if t245 = true then (if (l0.length : Int) = 0 then ((lift_Up.f k (([0] : List Int)) l0).bind fun t249 => (some ((t249.length : Int) == 1))) else ((lift_Up.f k (([Int.tmod (wrap64 (a1)) (l0.length : Int), Int.tmod (wrap64 (a1)) (l0.length : Int)] : List Int)) l0).bind fun t255 => (if (t255.length : Int) = 2 then (if 0 < (t255.length : Int) then (if 0 ≤ (Int.tmod (wrap64 (a1)) (l0.length : Int)) then (if (Int.tmod (wrap64 (a1)) (l0.length : Int)) < (l0.length : Int) then (maquettelaw23_LiftOwn.j0 k l0 (Int.tmod (wrap64 (a1)) (l0.length : Int)) t255 ((((rd_T64 t255 0).f2).length : Int) != (((rd_T64 l0 (Int.tmod (wrap64 (a1)) (l0.length : Int))).f2).length : Int))) else (none)) else (none)) else (none)) else (maquettelaw23_LiftOwn.j0 k l0 (Int.tmod (wrap64 (a1)) (l0.length : Int)) t255 true)))) else (some false)) = some r := H
 have A3 := Aside0.mk A30
 clear A30
 by_cases c4 : t245 = true
 ·subst c4
  have H1 : (if (l0.length : Int) = 0 then ((lift_Up.f k (([0] : List Int)) l0).bind fun t249 => (some ((t249.length : Int) == 1))) else ((lift_Up.f k (([Int.tmod (wrap64 (a1)) (l0.length : Int), Int.tmod (wrap64 (a1)) (l0.length : Int)] : List Int)) l0).bind fun t255 => (if (t255.length : Int) = 2 then (if 0 < (t255.length : Int) then (if 0 ≤ (Int.tmod (wrap64 (a1)) (l0.length : Int)) then (if (Int.tmod (wrap64 (a1)) (l0.length : Int)) < (l0.length : Int) then (maquettelaw23_LiftOwn.j0 k l0 (Int.tmod (wrap64 (a1)) (l0.length : Int)) t255 ((((rd_T64 t255 0).f2).length : Int) != (((rd_T64 l0 (Int.tmod (wrap64 (a1)) (l0.length : Int))).f2).length : Int))) else (none)) else (none)) else (none)) else (maquettelaw23_LiftOwn.j0 k l0 (Int.tmod (wrap64 (a1)) (l0.length : Int)) t255 true)))) = some r := by rw [if_pos rfl] at H; exact H
  clear H
  have H := H1
  clear H1
  by_cases c5 : (l0.length : Int) = 0
  ·rw [if_pos c5] at H
   have c5b0 : ((l0.length : Int) == 0) = true := beq_iff_eq.mpr c5
   have c5b1 : ((l0.length : Int) != 0) = false := bne_eq_false_iff_eq.mpr c5
   clear c5
   obtain ⟨y246, hy246⟩ : ∃ y_ : List Int, y_ = (([0] : List Int)) := ⟨_, rfl⟩
   replace H : ((lift_Up.f k y246 l0).bind fun t249 => (some ((t249.length : Int) == 1))) = some r := by first | (rw [hy246]; with_reducible exact H) | (have H2_ := (Option.bind_some _ _).symm.trans H; rw [hy246]; with_reducible exact H2_) | (have H2_ := (Option.bind_some _ _).symm.trans H; with_reducible exact H2_) | with_reducible exact H | (rw [hy246]; exact H) | exact H
   have Ny246 := Aside0.mk hy246
   clear hy246
   replace H := Option.bind_eq_some_iff.mp H
   obtain ⟨t249, A60, H⟩ := H
   replace H : (some ((t249.length : Int) == 1)) = some r := H
   have A6 := Aside0.mk A60
   clear A60
   obtain rfl := Option.some.inj H
   go_enter Try.func7, Try.ntmps7
   go_wp2_with (first | ((with_reducible refine gate_dst (N := 8) rfl ?_); refine gl (some 8) Try.func20 #[] ?_; (with_reducible refine (maquettelaw23_awake.calls k  true _ A3.out).mono ?_); rintro e w7 ⟨rfl, hb⟩; refine ⟨_, rfl, ?_⟩; replace HB := bst hb; (try clear hb); (try clear hb2); (try clear hk); (try clear hi)) | ((with_reducible refine gate_dst (N := 13) rfl ?_); (try (refine gate_guard (by rfl) ?_; dsimp only)); refine Kd.R_lit (Kd.int .i64) _ 3 ?hg (N := 13) ?hd (xs := ([0] : List Int)) (inner := [.int .i64 0]) (ok := fun _ => True) (okp := fun _ => True) ?hr ?hp (fun _ hk => hk) trivial (Below.refl _ _) (Nat.le_refl _) (by simp) ?_; (case hd => rfl); (case hg => rfl); (case hr => first | (go_simp; done) | (go_simp; rfl)); (case hp => exact (Reps.one (show Kd.M (Kd.int .i64) _ _ _ 0 [.int .i64 0] from rfl) (Reps.none _ _))); intro v247 w8 ho9 hb hg_ hnew_; clear hg_ hnew_; (first | rw [← Ny246.out] at ho9 | (simp only [Int.reduceToNat] at ho9; rw [← Ny246.out] at ho9)); have HO248 := Aside0.mk (Kd.R_lower ho9 (below_size bel)); replace HB := bst hb; clear hb ho9; obtain ⟨Ao10, co10, eo10⟩ := Kd.R_slice HO248.out; subst eo10) | ((with_reducible refine gate_dst (N := 15) rfl ?_); refine gl (some 15) Try.func21 #[.slice Ao10 y246.length co10, .slice A0 l0.length c0] ?_; (with_reducible refine (lift_Up.calls k _ _ y246 _ _ l0 t249 _ ?side1 ?side2 ?side3 ?side4 A6.out).mono ?_); (case side1 => repeat (first | exact (Kd.R_reads' HO248.out).2.2 | (with_reducible refine Kd.C_alloc ?_ _) | (with_reducible refine Kd.C_drewN ?_ _) | (with_reducible refine Kd.C_drew ?_))); (case side2 => exact (Kd.R_reads' HO248.out).2.1); (case side3 => repeat (first | exact (Kd.C_below HR0.out HB.out) | (with_reducible refine Kd.C_alloc ?_ _) | (with_reducible refine Kd.C_drewN ?_ _) | (with_reducible refine Kd.C_drew ?_))); (case side4 => exact HC0.out); rintro e w11 ⟨v250, rfl, ho0, hb⟩; refine ⟨_, rfl, ?_⟩; have HO251 := Aside0.mk (Kd.S_lower (Kd.S_new' ho0 (Kd.R_lt (kR HO248))) (below_size bel)); replace HO248 := Aside0.mk (Kd.R_below (kR HO248) hb); replace HB := bst hb; (try clear hb); (try clear hb2); (try clear hk); (try clear hi); (try clear ho0); obtain ⟨Ao12, co12, eo12⟩ := Kd.S_slice HO251.out; subst eo12))
   go_ret
   exact ⟨by first | rfl | (simp [errW_none, errW_some] <;> rfl) | (simp [*, errW_none, errW_some] <;> rfl), by repeat (first | (with_reducible first | exact HB.out | apply below_alloc | apply pw_below_drewN | apply below_drew1) | exact HB.out)⟩
  ·rw [if_neg c5] at H
   have c5b0 : ((l0.length : Int) == 0) = false := beq_eq_false_iff_ne.mpr c5
   have c5b1 : ((l0.length : Int) != 0) = true := bne_iff_ne.mpr c5
   have c5b2 : ¬ (l0 = []) := fun h_ => c5 (by rw [h_]; rfl)
   obtain ⟨y252, hy252⟩ : ∃ y_ : List Int, y_ = (([Int.tmod (wrap64 (a1)) (l0.length : Int), Int.tmod (wrap64 (a1)) (l0.length : Int)] : List Int)) := ⟨_, rfl⟩
   replace H : ((lift_Up.f k y252 l0).bind fun t255 => (if (t255.length : Int) = 2 then (if 0 < (t255.length : Int) then (if 0 ≤ (Int.tmod (wrap64 (a1)) (l0.length : Int)) then (if (Int.tmod (wrap64 (a1)) (l0.length : Int)) < (l0.length : Int) then (maquettelaw23_LiftOwn.j0 k l0 (Int.tmod (wrap64 (a1)) (l0.length : Int)) t255 ((((rd_T64 t255 0).f2).length : Int) != (((rd_T64 l0 (Int.tmod (wrap64 (a1)) (l0.length : Int))).f2).length : Int))) else (none)) else (none)) else (none)) else (maquettelaw23_LiftOwn.j0 k l0 (Int.tmod (wrap64 (a1)) (l0.length : Int)) t255 true))) = some r := by first | (rw [hy252]; with_reducible exact H) | (have H2_ := (Option.bind_some _ _).symm.trans H; rw [hy252]; with_reducible exact H2_) | (have H2_ := (Option.bind_some _ _).symm.trans H; with_reducible exact H2_) | with_reducible exact H | (rw [hy252]; exact H) | exact H
   have Ny252 := Aside0.mk hy252
   clear hy252
   replace H := Option.bind_eq_some_iff.mp H
   obtain ⟨t255, A130, H⟩ := H
   replace H : (if (t255.length : Int) = 2 then (if 0 < (t255.length : Int) then (if 0 ≤ (Int.tmod (wrap64 (a1)) (l0.length : Int)) then (if (Int.tmod (wrap64 (a1)) (l0.length : Int)) < (l0.length : Int) then (maquettelaw23_LiftOwn.j0 k l0 (Int.tmod (wrap64 (a1)) (l0.length : Int)) t255 ((((rd_T64 t255 0).f2).length : Int) != (((rd_T64 l0 (Int.tmod (wrap64 (a1)) (l0.length : Int))).f2).length : Int))) else (none)) else (none)) else (none)) else (maquettelaw23_LiftOwn.j0 k l0 (Int.tmod (wrap64 (a1)) (l0.length : Int)) t255 true)) = some r := H
   have A13 := Aside0.mk A130
   clear A130
   have HC14 := Aside0.mk H
   clear H
   go_enter Try.func7, Try.ntmps7
   go_upto_region 7 with (first | ((with_reducible refine gate_dst (N := 8) rfl ?_); refine gl (some 8) Try.func20 #[] ?_; (with_reducible refine (maquettelaw23_awake.calls k  true _ A3.out).mono ?_); rintro e w15 ⟨rfl, hb⟩; refine ⟨_, rfl, ?_⟩; replace HB := bst hb; (try clear hb); (try clear hb2); (try clear hk); (try clear hi)) | ((with_reducible refine gate_dst (N := 25) rfl ?_); (try (refine gate_guard (by rfl) ?_; dsimp only)); refine Kd.R_lit (Kd.int .i64) _ 3 ?hg (N := 25) ?hd (xs := ([Int.tmod (wrap64 (a1)) (l0.length : Int), Int.tmod (wrap64 (a1)) (l0.length : Int)] : List Int)) (inner := [.int .i64 (Int.tmod (wrap64 (a1)) (l0.length : Int)), .int .i64 (Int.tmod (wrap64 (a1)) (l0.length : Int))]) (ok := fun _ => True) (okp := fun _ => True) ?hr ?hp (fun _ hk => hk) trivial (Below.refl _ _) (Nat.le_refl _) (by simp) ?_; (case hd => rfl); (case hg => rfl); (case hr => first | (go_simp; done) | (go_simp; rfl)); (case hp => exact (Reps.one (show Kd.M (Kd.int .i64) _ _ _ (Int.tmod (wrap64 (a1)) (l0.length : Int)) [.int .i64 (Int.tmod (wrap64 (a1)) (l0.length : Int))] from rfl) (Reps.one (show Kd.M (Kd.int .i64) _ _ _ (Int.tmod (wrap64 (a1)) (l0.length : Int)) [.int .i64 (Int.tmod (wrap64 (a1)) (l0.length : Int))] from rfl) (Reps.none _ _)))); intro v253 w16 ho17 hb hg_ hnew_; clear hg_ hnew_; (first | rw [← Ny252.out] at ho17 | (simp only [Int.reduceToNat] at ho17; rw [← Ny252.out] at ho17)); have HO254 := Aside0.mk (Kd.R_lower ho17 (below_size bel)); replace HB := bst hb; clear hb ho17; obtain ⟨Ao18, co18, eo18⟩ := Kd.R_slice HO254.out; subst eo18) | ((with_reducible refine gate_dst (N := 27) rfl ?_); refine gl (some 27) Try.func21 #[.slice Ao18 y252.length co18, .slice A0 l0.length c0] ?_; (with_reducible refine (lift_Up.calls k _ _ y252 _ _ l0 t255 _ ?side1 ?side2 ?side3 ?side4 A13.out).mono ?_); (case side1 => repeat (first | exact (Kd.R_reads' HO254.out).2.2 | (with_reducible refine Kd.C_alloc ?_ _) | (with_reducible refine Kd.C_drewN ?_ _) | (with_reducible refine Kd.C_drew ?_))); (case side2 => exact (Kd.R_reads' HO254.out).2.1); (case side3 => repeat (first | exact (Kd.C_below HR0.out HB.out) | (with_reducible refine Kd.C_alloc ?_ _) | (with_reducible refine Kd.C_drewN ?_ _) | (with_reducible refine Kd.C_drew ?_))); (case side4 => exact HC0.out); rintro e w19 ⟨v256, rfl, ho0, hb⟩; refine ⟨_, rfl, ?_⟩; have HO257 := Aside0.mk (Kd.S_lower (Kd.S_new' ho0 (Kd.R_lt (kR HO254))) (below_size bel)); replace HO254 := Aside0.mk (Kd.R_below (kR HO254) hb); replace HB := bst hb; (try clear hb); (try clear hb2); (try clear hk); (try clear hi); (try clear ho0)))
   (try simp only [Act.put, List.setIfInBounds_toArray, List.set_cons_zero, List.set_cons_succ])
   go_cut [44] (fun v44 wc => ∃ (kq : Nat) (x44_13 : Bool), v44 = .bool x44_13 ∧ Aside0 (maquettelaw23_LiftOwn.j0 kq l0 (Int.tmod (wrap64 (a1)) (l0.length : Int)) t255 x44_13 = some r) ∧ Aside0 (kq ≤ k) ∧ Aside0 (Kd.S k64 64 wc w.heap.size (fun _ => True) v256 t255) ∧ Aside0 (Below w.heap.size w wc))
   case first =>
    have H := HC14.out
    clear HC14
    by_cases c20 : (t255.length : Int) = 2
    ·rw [if_pos c20] at H
     have c20b0 : ((t255.length : Int) == 2) = true := beq_iff_eq.mpr c20
     have c20b1 : ((t255.length : Int) != 2) = false := bne_eq_false_iff_eq.mpr c20
     clear c20
     (first | rw [c20b0] | (simp only [i64_w, i32_w]; rw [c20b0]) | skip)
     by_cases c21 : 0 < (t255.length : Int)
     ·rw [if_pos c21] at H
      have c21b0 : decide (0 < (t255.length : Int)) = true := decide_eq_true c21
      have c21b1 : decide (0 < t255.length) = true := decide_eq_true (by omega)
      clear c21
      obtain ⟨ji22, hji22⟩ : ∃ j_ : Int, (Int.tmod (wrap64 (a1)) (l0.length : Int)) = j_ := ⟨_, rfl⟩
      replace H : (if 0 ≤ (ji22) then (if (ji22) < (l0.length : Int) then (maquettelaw23_LiftOwn.j0 k l0 ji22 t255 ((((rd_T64 t255 0).f2).length : Int) != (((rd_T64 l0 (ji22)).f2).length : Int))) else (none)) else (none)) = some r := by first | (rw [hji22] at H; exact H) | (simp only [hji22] at H ⊢; exact H)
      by_cases c23 : 0 ≤ (ji22)
      ·rw [if_pos c23] at H
       have c23b0 : decide (0 ≤ (ji22)) = true := decide_eq_true c23
       clear c23
       by_cases c24 : (ji22) < (l0.length : Int)
       ·rw [if_pos c24] at H
        have c24b0 : decide ((ji22) < (l0.length : Int)) = true := decide_eq_true c24
        clear c24
        have H' := Aside0.mk H
        clear H
        try go_wp2
        replace HO254 := Aside0.mk (Kd.R_drew HO254.out)
        replace HO257 := Aside0.mk (Kd.S_drew HO257.out)
        replace HB := Aside0.mk (below_drew1 HB.out)
        obtain ⟨Ao26, co26, eo26⟩ := Kd.S_slice HO257.out
        (first | subst eo26 | (injection eo26 with f1_ f2_ f3_; have f4_ := f1_.symm; have f5_ := f3_.symm; clear f1_ f2_ f3_; subst f4_; subst f5_))
        have p258 : 0 ≤ (0 : Int) := (by omega)
        have q258 : 0 < (t255.length : Int) := of_decide_eq_true (by first | (with_reducible assumption) | assumption)
        obtain ⟨ad258, A258_2, c258_2, e258, hx258_0, hx258_1, hx258_2, hl258_2, hi258_2⟩ := at_T64 (Kd.S_reads' HO257.out).2.2 0 p258 q258
        cases e258
        obtain ⟨ce258, hce258, hMe258, hcc258⟩ := Kd.S_get HO257.out z64 0 p258 (by first | exact q258 | exact of_decide_eq_true (by first | (with_reducible assumption) | assumption) | (have e_ := (Kd.S_reads' HO257.out).1; omega))
        obtain ⟨ve258_2, rfl, ge258_2⟩ := k64_openM hMe258
        have hv258_2 := hcc258 2 _ rfl
        rw [add_field _ _ 2 (by omega)] at hv258_2
        replace hv258_2 := Option.some.inj (hv258_2.symm.trans hx258_2)
        rw [hv258_2] at ge258_2
        have HL258_2 := Aside0.mk (show Kd.R (Kd.int .i64) 3 _ _ _ _ ((rd_T64 t255 0).f2) from ge258_2)
        clear hv258_2 ge258_2
        have HX258_2 := Aside0.mk hx258_2
        clear hcc258 hce258
        have qi258 : (0 < t255.length) = True := eq_true (by omega)
        (try rw [show ((0 : Int)).toNat = 0 from rfl] at hx258_0)
        (try rw [show 0 * 3 = 0 from rfl] at hx258_0)
        (try rw [Addr.add_zero'] at hx258_0)
        (try rw [show ((0 : Int)).toNat = 0 from rfl] at hx258_1)
        (try rw [show 0 * 3 = 0 from rfl] at hx258_1)
        (try rw [Addr.add_zero'] at hx258_1)
        (try rw [show ((0 : Int)).toNat = 0 from rfl] at hx258_2)
        (try rw [show 0 * 3 = 0 from rfl] at hx258_2)
        (try rw [Addr.add_zero'] at hx258_2)
        have HR258_2 := Aside0.mk hi258_2
        have HC258_2 := Aside0.mk hl258_2
        clear hi258_2 hl258_2
        replace p258 := eq_true p258
        replace q258 := eq_true q258
        have p259 : 0 ≤ ((ji22) : Int) := of_decide_eq_true (by first | (with_reducible assumption) | assumption)
        have q259 : (ji22) < (l0.length : Int) := of_decide_eq_true (by first | (with_reducible assumption) | assumption)
        obtain ⟨ad259, A259_2, c259_2, e259, hx259_0, hx259_1, hx259_2, hl259_2, hi259_2⟩ := at_T64 HR0.out (ji22) p259 q259
        have hw259_2 := hx259_2
        have hw259_1 := hx259_1
        have hw259_0 := hx259_0
        cases e259
        replace hx259_0 := (HB.out.cell (World.block_lt_of_cell? w _ hx259_0)).trans hx259_0
        replace hx259_1 := (HB.out.cell (World.block_lt_of_cell? w _ hx259_1)).trans hx259_1
        replace hx259_2 := (HB.out.cell (World.block_lt_of_cell? w _ hx259_2)).trans hx259_2
        have HR259_2 := Aside0.mk hi259_2
        have HC259_2 := Aside0.mk hl259_2
        clear hi259_2 hl259_2
        replace p259 := eq_true p259
        replace q259 := eq_true q259
        refine start_ (n := 17) (S := fun w' => w'.cell? ad258 = some (.bool ((rd_T64 t255 0).f0)) ∧ w'.cell? ⟨ad258.block, ad258.off + 1, none⟩ = some (.bool ((rd_T64 t255 0).f1)) ∧ w'.cell? ⟨ad258.block, ad258.off + 2, none⟩ = some (.slice A258_2 ((rd_T64 t255 0).f2).length c258_2) ∧ w'.cell? (ad259.add (((ji22)).toNat * 3)) = some (.bool ((rd_T64 l0 (ji22)).f0)) ∧ w'.cell? ⟨(ad259.add (((ji22)).toNat * 3)).block, (ad259.add (((ji22)).toNat * 3)).off + 1, none⟩ = some (.bool ((rd_T64 l0 (ji22)).f1)) ∧ w'.cell? ⟨(ad259.add (((ji22)).toNat * 3)).block, (ad259.add (((ji22)).toNat * 3)).off + 2, none⟩ = some (.slice A259_2 ((rd_T64 l0 (ji22)).f2).length c259_2)) (ds := []) #[false, false, false, false, false, false, false, false, false, false, false, false, false, false, false, false, false] (by kernel_rfl) rfl rfl ⟨hx258_0, hx258_1, hx258_2, ((HB.out.cell (World.block_lt_of_cell? w _ hw259_0)).trans hw259_0), ((HB.out.cell (World.block_lt_of_cell? w _ hw259_1)).trans hw259_1), ((HB.out.cell (World.block_lt_of_cell? w _ hw259_2)).trans hw259_2)⟩ (fun hHeld => ?_); refine with_tabW maquettelaw23_LiftOwn.tab7 maquettelaw23_LiftOwn.bits7 (fun HT_ HW_ => ?_)
        generalize w19.drew = w25 at HO254 HO257 HB HL258_2 HR258_2 HR259_2 HX258_2 hx258_0 hx258_1 hx258_2 hx259_0 hx259_1 hx259_2 hHeld ⊢
        refine pu HT_ 0 (some 28) (mk 17 1) ?_
        refine pu HT_ 1 (some 29) (mk 17 3) ?_
        refine pu HT_ 2 (some 30) (mk 17 7) ?_
        refine pu HT_ 3 (some 31) (mk 17 15) ?_
        refine pu HT_ 4 (some 32) (mk 17 31) ?_
        refine pu HT_ 5 (some 33) (mk 17 63) ?_
        refine pu HT_ 6 (some 34) (mk 17 127) ?_
        refine pu HT_ 9 (some 37) (mk 17 639) ?_
        refine pu HT_ 10 (some 38) (mk 17 1663) ?_
        refine pu HT_ 11 (some 39) (mk 17 3711) ?_
        refine pu HT_ 12 (some 40) (mk 17 7807) ?_
        refine tk HT_ HW_ 7 (some 35) (mk 17 7935) hHeld ?_
        refine pu HT_ 8 (some 36) (mk 17 8191) ?_
        refine tk HT_ HW_ 13 (some 41) (mk 17 16383) hHeld ?_
        refine pu HT_ 14 (some 42) (mk 17 32767) ?_
        refine pu HT_ 15 (some 43) (mk 17 65535) ?_
        refine pu HT_ 16 (some 44) (mk 17 131071) ?_
        refine done_ (done_of HT_.out (by kernel_rfl)) ?_
        try go_wp2
        go_meet
        case rel => exact ⟨_, (((((rd_T64 t255 0).f2).length : Int) != (((rd_T64 l0 (ji22)).f2).length : Int))), (by first | rfl | (simp; done) | (simp only [← hji22] <;> (first | rfl | simp)) | (simp [*]; done)), (by first | exact H' | (rw [hji22]; exact H')), ⟨by first | omega | exact Nat.le_refl _⟩, ⟨by (with_reducible repeat (first | apply Kd.S_alloc | apply Kd.S_drewN | apply Kd.S_drew)); exact Kd.S_mono HO257.out (fun _ hk => trivial)⟩, ⟨by repeat (first | (with_reducible first | exact HB.out | apply below_alloc | apply pw_below_drewN | apply below_drew1) | exact HB.out)⟩⟩
       ·rw [if_neg c24] at H
        exact absurd H (by simp)
      ·rw [if_neg c23] at H
       exact absurd H (by simp)
     ·rw [if_neg c21] at H
      exact absurd H (by simp)
    ·rw [if_neg c20] at H
     have c20b0 : ((t255.length : Int) == 2) = false := beq_eq_false_iff_ne.mpr c20
     have c20b1 : ((t255.length : Int) != 2) = true := bne_iff_ne.mpr c20
     (first | rw [c20b0] | (simp only [i64_w, i32_w]; rw [c20b0]) | skip)
     have H' := Aside0.mk H
     clear H
     try go_wp2
     replace HO254 := Aside0.mk (Kd.R_drew HO254.out)
     replace HO257 := Aside0.mk (Kd.S_drew HO257.out)
     replace HB := Aside0.mk (below_drew1 HB.out)
     obtain ⟨Ao28, co28, eo28⟩ := Kd.S_slice HO257.out
     (first | subst eo28 | (injection eo28 with f1_ f2_ f3_; have f4_ := f1_.symm; have f5_ := f3_.symm; clear f1_ f2_ f3_; subst f4_; subst f5_))
     refine start_ (n := 17) (S := fun w' => True) (ds := []) #[false, false, false, false, false, false, false, false, false, false, false, false, false, false, false, false, false] (by kernel_rfl) rfl rfl trivial (fun hHeld => ?_); refine with_tabW maquettelaw23_LiftOwn.tab7 maquettelaw23_LiftOwn.bits7 (fun HT_ HW_ => ?_)
     generalize w19.drew = w27 at HO254 HO257 HB hHeld ⊢
     refine pu HT_ 0 (some 28) (mk 17 1) ?_
     refine pu HT_ 1 (some 29) (mk 17 3) ?_
     refine pu HT_ 2 (some 30) (mk 17 7) ?_
     refine pu HT_ 3 (some 31) (mk 17 15) ?_
     refine pun HT_ 4 (some 32) (mk 17 31) ?_
     refine pun HT_ 5 (some 33) (mk 17 63) ?_
     refine pun HT_ 6 (some 34) (mk 17 127) ?_
     refine pun HT_ 7 (some 35) (mk 17 255) ?_
     refine pun HT_ 8 (some 36) (mk 17 511) ?_
     refine pun HT_ 9 (some 37) (mk 17 1023) ?_
     refine pun HT_ 10 (some 38) (mk 17 2047) ?_
     refine pun HT_ 11 (some 39) (mk 17 4095) ?_
     refine pun HT_ 12 (some 40) (mk 17 8191) ?_
     refine pun HT_ 13 (some 41) (mk 17 16383) ?_
     refine pun HT_ 14 (some 42) (mk 17 32767) ?_
     refine pun HT_ 15 (some 43) (mk 17 65535) ?_
     refine pu HT_ 16 (some 44) (mk 17 131071) ?_
     refine done_ (done_of HT_.out (by kernel_rfl)) ?_
     try go_wp2
     go_meet
     case rel => exact ⟨_, (true), (by first | rfl | (simp; done) | (simp [*]; done)), H', ⟨by first | omega | exact Nat.le_refl _⟩, ⟨by (with_reducible repeat (first | apply Kd.S_alloc | apply Kd.S_drewN | apply Kd.S_drew)); exact Kd.S_mono HO257.out (fun _ hk => trivial)⟩, ⟨by repeat (first | (with_reducible first | exact HB.out | apply below_alloc | apply pw_below_drewN | apply below_drew1) | exact HB.out)⟩⟩
   case rest =>
    clear HC14
    try clear c2
    try clear p2
    try clear q2
    try clear hx2
    try clear qi2
    try clear c4
    try clear c5
    try clear c5b0
    try clear c5b1
    try clear c5b2
    try clear p6
    try clear c7
    try clear c20
    try clear c20b0
    try clear c20b1
    try clear c21
    try clear c21b0
    try clear c21b1
    try clear c23
    try clear c23b0
    try clear c24
    try clear c24b0
    try clear c25
    try clear p25
    try clear q25
    try clear hx25
    try clear qi25
    try clear hx258_0
    try clear hx258_1
    try clear hx258_2
    try clear hx259_0
    try clear hx259_1
    try clear hx259_2
    try clear p258
    try clear p259
    try clear q258
    try clear q259
    obtain ⟨kq, x44_13, rfl, HA, HJ13, HO_6, HB⟩ := hcut
    cases kq with
    | zero => exact absurd HA.out (by simp [maquettelaw23_LiftOwn.j0])
    | succ kj13 =>
     have H := HA.out
     clear HA
     simp only [maquettelaw23_LiftOwn.j0] at H
     by_cases c29 : x44_13 = true
     ·subst c29
      have H1 : (some false) = some r := by rw [if_pos rfl] at H; exact H
      clear H
      have H := H1
      clear H1
      obtain rfl := Option.some.inj H
      go_wp2
      go_ret
      exact ⟨by first | rfl | (simp [errW_none, errW_some] <;> rfl) | (simp [*, errW_none, errW_some] <;> rfl), by repeat (first | (with_reducible first | exact HB.out | apply below_alloc | apply pw_below_drewN | apply below_drew1) | exact HB.out)⟩
     ·replace c29 := Bool.eq_false_iff.mpr c29
      subst c29
      have H1 : (if 0 < (t255.length : Int) then (maquettelaw23_LiftOwn.l0 kj13 l0 (Int.tmod (wrap64 (a1)) (l0.length : Int)) t255 (((rd_T64 t255 0).f2).length : Int) 0) else (none)) = some r := by rw [if_neg (show ¬ (false = true) by decide)] at H; exact H
      clear H
      have H := H1
      clear H1
      by_cases c30 : 0 < (t255.length : Int)
      ·rw [if_pos c30] at H
       have c30b0 : decide (0 < (t255.length : Int)) = true := decide_eq_true c30
       have c30b1 : decide (0 < t255.length) = true := decide_eq_true (by omega)
       clear c30
       have H' := Aside0.mk H
       clear H
       obtain ⟨Ao31, co31, eo31⟩ := Kd.S_slice HO_6.out
       subst eo31
       have p260 : 0 ≤ (0 : Int) := (by omega)
       have q260 : 0 < (t255.length : Int) := of_decide_eq_true (by first | (with_reducible assumption) | assumption)
       obtain ⟨ad260, A260_2, c260_2, e260, hx260_0, hx260_1, hx260_2, hl260_2, hi260_2⟩ := at_T64 (Kd.S_reads' HO_6.out).2.2 0 p260 q260
       cases e260
       obtain ⟨ce260, hce260, hMe260, hcc260⟩ := Kd.S_get HO_6.out z64 0 p260 (by first | exact q260 | exact of_decide_eq_true (by first | (with_reducible assumption) | assumption) | (have e_ := (Kd.S_reads' HO_6.out).1; omega))
       obtain ⟨ve260_2, rfl, ge260_2⟩ := k64_openM hMe260
       have hv260_2 := hcc260 2 _ rfl
       rw [add_field _ _ 2 (by omega)] at hv260_2
       replace hv260_2 := Option.some.inj (hv260_2.symm.trans hx260_2)
       rw [hv260_2] at ge260_2
       have HL260_2 := Aside0.mk (show Kd.R (Kd.int .i64) 3 _ _ _ _ ((rd_T64 t255 0).f2) from ge260_2)
       clear hv260_2 ge260_2
       have HX260_2 := Aside0.mk hx260_2
       clear hcc260 hce260
       have qi260 : (0 < t255.length) = True := eq_true (by omega)
       (try rw [show ((0 : Int)).toNat = 0 from rfl] at hx260_0)
       (try rw [show 0 * 3 = 0 from rfl] at hx260_0)
       (try rw [Addr.add_zero'] at hx260_0)
       (try rw [show ((0 : Int)).toNat = 0 from rfl] at hx260_1)
       (try rw [show 0 * 3 = 0 from rfl] at hx260_1)
       (try rw [Addr.add_zero'] at hx260_1)
       (try rw [show ((0 : Int)).toNat = 0 from rfl] at hx260_2)
       (try rw [show 0 * 3 = 0 from rfl] at hx260_2)
       (try rw [Addr.add_zero'] at hx260_2)
       have HR260_2 := Aside0.mk hi260_2
       have HC260_2 := Aside0.mk hl260_2
       clear hi260_2 hl260_2
       replace p260 := eq_true p260
       replace q260 := eq_true q260
       go_wp2
       go_loopg [50] kj13 (fun kq v50 w' => ∃ (x6_2 : List (S64)) (x50_2 : Int), v50 = .int .i64 x50_2 ∧ Aside0 (maquettelaw23_LiftOwn.l0 kq l0 (Int.tmod (wrap64 (a1)) (l0.length : Int)) x6_2 (((rd_T64 t255 0).f2).length : Int) x50_2 = some r) ∧ Aside0 (kq ≤ kj13) ∧ Aside0 (Kd.S k64 64 w' w.heap.size (fun _ => True) (.slice (some ad260) t255.length co31) x6_2) ∧ Aside0 (Below w.heap.size w w'))
       case atStart => exact ⟨(t255), (0), (by first | rfl | (simp; done) | (simp [*]; done)), H', ⟨Nat.le_refl _⟩, ⟨by (with_reducible repeat (first | apply Kd.S_alloc | apply Kd.S_drewN | apply Kd.S_drew)); exact HO_6.out⟩, ⟨by repeat (first | (with_reducible first | exact HB.out | apply below_alloc | apply pw_below_drewN | apply below_drew1) | exact HB.out)⟩⟩
       case round =>
        clear H'
        try clear c2
        try clear p2 p2
        try clear q2 q2
        try clear hx2
        try clear qi2
        try clear c3
        try clear c4
        try clear c5
        try clear c5b0
        try clear c5b1
        try clear c5b2
        try clear p6 p6
        try clear c7
        try clear c20
        try clear c20b0
        try clear c20b1
        try clear c21
        try clear c21b0
        try clear c21b1
        try clear c23
        try clear c23b0
        try clear c24
        try clear c24b0
        try clear c25
        try clear p25 p25
        try clear q25 q25
        try clear hx25
        try clear qi25
        try clear c26
        try clear p26
        try clear q26
        try clear hx26
        try clear qi26
        try clear c29
        try clear c30
        try clear c30b0
        try clear c30b1
        try clear hx258_0
        try clear hx258_1
        try clear hx258_2
        try clear hx259_0
        try clear hx259_1
        try clear hx259_2
        try clear hx260_0
        try clear hx260_1
        try clear hx260_2
        try clear p258
        try clear p259
        try clear p260
        try clear q258
        try clear q259
        try clear q260
        obtain ⟨x6_2, x50_2, rfl, HA, HK2, HO_6, HB⟩ := hrel
        have hl6_2 := (Kd.S_reads' HO_6.out).1
        rw [hl6_2] at HO_6
        (try simp only [hl6_2])
        cases gk with
        | zero => exact absurd HA.out (by simp [maquettelaw23_LiftOwn.l0])
        | succ k2 =>
         have H := HA.out
         clear HA
         simp only [maquettelaw23_LiftOwn.l0] at H
         by_cases c32 : x50_2 < (((rd_T64 t255 0).f2).length : Int)
         ·rw [if_pos c32] at H
          have c32b0 : decide (x50_2 < (((rd_T64 t255 0).f2).length : Int)) = true := decide_eq_true c32
          clear c32
          by_cases c33 : 0 < (x6_2.length : Int)
          ·rw [if_pos c33] at H
           have c33b0 : decide (0 < (x6_2.length : Int)) = true := decide_eq_true c33
           have c33b1 : decide (0 < x6_2.length) = true := decide_eq_true (by omega)
           clear c33
           by_cases c34 : 0 ≤ x50_2
           ·rw [if_pos c34] at H
            have c34b0 : decide (0 ≤ x50_2) = true := decide_eq_true c34
            clear c34
            by_cases c35 : x50_2 < (((rd_T64 x6_2 0).f2).length : Int)
            ·rw [if_pos c35] at H
             have c35b0 : decide (x50_2 < (((rd_T64 x6_2 0).f2).length : Int)) = true := decide_eq_true c35
             clear c35
             obtain ⟨y263, hy263⟩ : ∃ y_ : List Int, y_ = (((rd_T64 x6_2 0).f2).set (x50_2 : Int).toNat (wrap64 ((rd ((rd_T64 x6_2 0).f2) x50_2) + 1))) := ⟨_, rfl⟩
             replace H : (maquettelaw23_LiftOwn.l0 k2 l0 (Int.tmod (wrap64 (a1)) (l0.length : Int)) (x6_2.set (0 : Int).toNat (⟨(rd_T64 x6_2 0).f0, (rd_T64 x6_2 0).f1, y263⟩ : S64)) (((rd_T64 t255 0).f2).length : Int) (wrap64 (x50_2 + 1))) = some r := by first | (rw [hy263]; with_reducible exact H) | (have H2_ := (Option.bind_some _ _).symm.trans H; rw [hy263]; with_reducible exact H2_) | (have H2_ := (Option.bind_some _ _).symm.trans H; with_reducible exact H2_) | with_reducible exact H | (rw [hy263]; exact H) | exact H
             have Ny263 := Aside0.mk hy263
             clear hy263
             obtain ⟨y265, hy265⟩ : ∃ y_ : List (S64), y_ = (x6_2.set (0 : Int).toNat (⟨(rd_T64 x6_2 0).f0, (rd_T64 x6_2 0).f1, y263⟩ : S64)) := ⟨_, rfl⟩
             replace H : (maquettelaw23_LiftOwn.l0 k2 l0 (Int.tmod (wrap64 (a1)) (l0.length : Int)) y265 (((rd_T64 t255 0).f2).length : Int) (wrap64 (x50_2 + 1))) = some r := by first | (rw [hy265]; with_reducible exact H) | (have H2_ := (Option.bind_some _ _).symm.trans H; rw [hy265]; with_reducible exact H2_) | (have H2_ := (Option.bind_some _ _).symm.trans H; with_reducible exact H2_) | with_reducible exact H | (rw [hy265]; exact H) | exact H
             have Ny265 := Aside0.mk hy265
             clear hy265
             have H' := Aside0.mk H
             clear H
             have p261 : 0 ≤ (0 : Int) := (by omega)
             have q261 : 0 < (x6_2.length : Int) := of_decide_eq_true (by first | (with_reducible assumption) | assumption)
             obtain ⟨ad261, A261_2, c261_2, e261, hx261_0, hx261_1, hx261_2, hl261_2, hi261_2⟩ := at_T64 (Kd.S_reads' HO_6.out).2.2 0 p261 q261
             obtain rfl : ad260 = ad261 := (by injection e261)
             obtain ⟨ce261, hce261, hMe261, hcc261⟩ := Kd.S_get HO_6.out z64 0 p261 (by first | exact q261 | exact of_decide_eq_true (by first | (with_reducible assumption) | assumption) | (have e_ := (Kd.S_reads' HO_6.out).1; omega))
             obtain ⟨ve261_2, rfl, ge261_2⟩ := k64_openM hMe261
             have hv261_2 := hcc261 2 _ rfl
             rw [add_field _ _ 2 (by omega)] at hv261_2
             replace hv261_2 := Option.some.inj (hv261_2.symm.trans hx261_2)
             rw [hv261_2] at ge261_2
             have HL261_2 := Aside0.mk (show Kd.R (Kd.int .i64) 3 _ _ _ _ ((rd_T64 x6_2 0).f2) from ge261_2)
             clear hv261_2 ge261_2
             have HX261_2 := Aside0.mk hx261_2
             clear hcc261 hce261
             have qi261 : (0 < x6_2.length) = True := eq_true (by omega)
             (try rw [show ((0 : Int)).toNat = 0 from rfl] at hx261_0)
             (try rw [show 0 * 3 = 0 from rfl] at hx261_0)
             (try rw [Addr.add_zero'] at hx261_0)
             (try rw [show ((0 : Int)).toNat = 0 from rfl] at hx261_1)
             (try rw [show 0 * 3 = 0 from rfl] at hx261_1)
             (try rw [Addr.add_zero'] at hx261_1)
             (try rw [show ((0 : Int)).toNat = 0 from rfl] at hx261_2)
             (try rw [show 0 * 3 = 0 from rfl] at hx261_2)
             (try rw [Addr.add_zero'] at hx261_2)
             have HR261_2 := Aside0.mk hi261_2
             have HC261_2 := Aside0.mk hl261_2
             clear hi261_2 hl261_2
             replace p261 := eq_true p261
             replace q261 := eq_true q261
             have p262 : 0 ≤ (x50_2 : Int) := of_decide_eq_true (by first | (with_reducible assumption) | assumption)
             have q262 : x50_2 < (((rd_T64 x6_2 0).f2).length : Int) := of_decide_eq_true (by first | (with_reducible assumption) | assumption)
             obtain ⟨ad262, e262, hx262_0⟩ := Kd.at_int (by repeat (first | (with_reducible exact HR261_2.out) | (with_reducible refine Kd.C_alloc ?_ _) | (with_reducible refine Kd.C_drewN ?_ _) | (with_reducible refine Kd.C_drew ?_) | exact HR261_2.out)) x50_2 p262 q262
             cases e262
             replace p262 := eq_true p262
             replace q262 := eq_true q262
             have p36 : 0 ≤ (x50_2 : Int) := of_decide_eq_true (by first | (with_reducible assumption) | assumption)
             have q36 : (x50_2 : Int) < ((((rd_T64 x6_2 0).f2).length : Int) : Int) := of_decide_eq_true (by first | (with_reducible assumption) | assumption)
             obtain ⟨go36, co36, eo36, gb36, gl36, cl36, HG36⟩ := Kd.R_form HL261_2.out (by omega)
             (first | cases eo36 | (injection eo36 with ea_ en_ ec_; (first | subst ea_ | (injection ea_ with ea_; subst ea_)); subst ec_; clear en_))
             have GB36 := Aside0.mk gb36
             have GG36 := Aside0.mk HG36
             clear gb36 gl36 HG36
             (first | simp only [add_plain] at hx262_0 | skip)
             obtain ⟨hx36_0, hf36_0⟩ := Kd.R_celln 0 HL261_2.out (x50_2 : Int) p36 q36
             replace p36 := eq_true p36
             replace q36 := eq_true q36
             have hq37 : (0 : Int) < (x6_2.length : Int) := (by have h_ : (0 : Int) < ((x6_2.length : Int) : Int) := of_decide_eq_true (by first | (with_reducible assumption) | assumption); first | exact h_ | (have e_ := (Kd.S_reads' HO_6.out).1; omega) | simpa only [List.length_set, List.length_set] using h_)
             obtain ⟨oki37, ce37, hcl37, hM37, hcc37, hok37, hbk37⟩ := Kd.S_borrow HO_6.out z64 (0 : Int) (by omega) hq37
             obtain ⟨ve37_2, rfl, ge37_2⟩ := k64_openM hM37
             have hv37 := hcc37 2 _ rfl
             rw [add_field _ _ 2 (by omega)] at hv37
             replace hv37 := Option.some.inj (hv37.symm.trans HX261_2.out)
             subst hv37
             clear hcc37 hcl37
             replace ge37_2 := (show Kd.R (Kd.int .i64) 3 _ _ _ _ ((rd_T64 x6_2 0).f2) from ge37_2)
             have HP37 := Kd.R_putg ge37_2 (x50_2 : Int) (wrap64 ((rd ((rd_T64 x6_2 0).f2) x50_2) + 1))
             go_wp2_with (first | ((with_reducible refine gate_store (t := 3) (p := 61) rfl ?_); refine store_event (t := 3) (p := 61) (v := ?vo_w38) (w1 := (wr.setCell ⟨go36, (x50_2 : Int).toNat, none⟩ (.int .i64 (wrap64 ((rd ((rd_T64 x6_2 0).f2) x50_2) + 1))))) ?hg ?ho ?hn ?hr ?_; (case ho => rfl); (case hg => rfl); (case hn => rfl); (case hr => first | (go_simp; done) | (go_simp; rfl)); intro w38 hw; have hg : wr.grownBy w38 (some go36) := (by rw [hw]; exact HP37.2); have hz_ : Kd.R (Kd.int .i64) 3 w38 w.heap.size oki37 (.slice (some ⟨go36, 0, none⟩) ((rd_T64 x6_2 0).f2).length c261_2) y263 := (by rw [hw, Ny263.out]; exact HP37.1); have hp_ : Kd.S k64 64 w38 w.heap.size (fun _ => True) (.slice (some ad260) x6_2.length co31) y265 := (by rw [Ny265.out]; exact hbk37 hg (fun k_ e_ => by injection e_ with e_; subst e_; exact ge37_2.1 _ rfl) (k64_mkM _ _ _ (⟨(rd_T64 x6_2 0).f0, (rd_T64 x6_2 0).f1, y263⟩ : S64) hz_)); have hm_ := Kd.R_mono hz_ hok37; clear HP37 hbk37; have HL269 := Aside0.mk hm_; have HC264 := Aside0.mk ((Kd.R_reads' hm_).2.1); replace HO_6 := Aside0.mk (hp_); replace HB := Aside0.mk ((by rw [hw]; exact below_set (HB.out) GB36.out : Below w.heap.size w w38)); clear HL261_2; clear hg hw hp_ hz_ hm_ hok37))
             (try simp only [← hl6_2])
             go_roundg k2
             case measure => have := HJ13.out; have := HK2.out; omega
             case rel => exact ⟨(y265), (wrap64 (x50_2 + 1)), (by first | rfl | (simp; done) | (simp [*]; done)), H', ⟨by have := HJ13.out; have := HK2.out; omega⟩, ⟨by (try simp only [hl6_2]); (with_reducible repeat (first | apply Kd.S_alloc | apply Kd.S_drewN | apply Kd.S_drew)); exact HO_6.out⟩, ⟨by repeat (first | (with_reducible first | exact HB.out | apply below_alloc | apply pw_below_drewN | apply below_drew1) | exact HB.out)⟩⟩
            ·rw [if_neg c35] at H
             exact absurd H (by simp)
           ·rw [if_neg c34] at H
            exact absurd H (by simp)
          ·rw [if_neg c33] at H
           exact absurd H (by simp)
         ·rw [if_neg c32] at H
          have c32b0 : decide (x50_2 < (((rd_T64 t255 0).f2).length : Int)) = false := decide_eq_false c32
          clear c32
          by_cases c39 : 1 < (x6_2.length : Int)
          ·rw [if_pos c39] at H
           have c39b0 : decide (1 < (x6_2.length : Int)) = true := decide_eq_true c39
           have c39b1 : decide (1 < x6_2.length) = true := decide_eq_true (by omega)
           clear c39
           obtain ⟨ji40, hji40⟩ : ∃ j_ : Int, (Int.tmod (wrap64 (a1)) (l0.length : Int)) = j_ := ⟨_, rfl⟩
           replace H : (if 0 ≤ (ji40) then (if (ji40) < (l0.length : Int) then ((lift_Same.f k2 ((rd_T64 x6_2 1).f0) ((rd_T64 x6_2 1).f1) ((rd_T64 x6_2 1).f2) ((rd_T64 l0 (ji40)).f0) ((rd_T64 l0 (ji40)).f1) ((rd_T64 l0 (ji40)).f2)).bind fun t268 => (some t268)) else (none)) else (none)) = some r := by first | (rw [hji40] at H; exact H) | (simp only [hji40] at H ⊢; exact H)
           by_cases c41 : 0 ≤ (ji40)
           ·rw [if_pos c41] at H
            have c41b0 : decide (0 ≤ (ji40)) = true := decide_eq_true c41
            clear c41
            by_cases c42 : (ji40) < (l0.length : Int)
            ·rw [if_pos c42] at H
             have c42b0 : decide ((ji40) < (l0.length : Int)) = true := decide_eq_true c42
             clear c42
             replace H := Option.bind_eq_some_iff.mp H
             obtain ⟨t268, A430, H⟩ := H
             replace H : (some t268) = some r := H
             have A43 := Aside0.mk A430
             clear A430
             obtain rfl := Option.some.inj H
             try go_wp2
             replace HO_6 := Aside0.mk (Kd.S_drew HO_6.out)
             replace HB := Aside0.mk (below_drew1 HB.out)
             have p266 : 0 ≤ (1 : Int) := (by omega)
             have q266 : 1 < (x6_2.length : Int) := of_decide_eq_true (by first | (with_reducible assumption) | assumption)
             obtain ⟨ad266, A266_2, c266_2, e266, hx266_0, hx266_1, hx266_2, hl266_2, hi266_2⟩ := at_T64 (Kd.S_reads' HO_6.out).2.2 1 p266 q266
             obtain rfl : ad260 = ad266 := (by injection e266)
             obtain ⟨ce266, hce266, hMe266, hcc266⟩ := Kd.S_get HO_6.out z64 1 p266 (by first | exact q266 | exact of_decide_eq_true (by first | (with_reducible assumption) | assumption) | (have e_ := (Kd.S_reads' HO_6.out).1; omega))
             obtain ⟨ve266_2, rfl, ge266_2⟩ := k64_openM hMe266
             have hv266_2 := hcc266 2 _ rfl
             rw [add_field _ _ 2 (by omega)] at hv266_2
             replace hv266_2 := Option.some.inj (hv266_2.symm.trans hx266_2)
             rw [hv266_2] at ge266_2
             have HL266_2 := Aside0.mk (show Kd.R (Kd.int .i64) 3 _ _ _ _ ((rd_T64 x6_2 1).f2) from ge266_2)
             clear hv266_2 ge266_2
             have HX266_2 := Aside0.mk hx266_2
             clear hcc266 hce266
             (try simp only [show (1 : Int).toNat = 1 from rfl, Nat.reduceMul, Nat.reduceEqDiff, Go.Addr.add, ↓reduceIte] at hx266_0)
             (try simp only [show (1 : Int).toNat = 1 from rfl, Nat.reduceMul, Nat.reduceEqDiff, Go.Addr.add, ↓reduceIte] at hx266_1)
             (try simp only [show (1 : Int).toNat = 1 from rfl, Nat.reduceMul, Nat.reduceEqDiff, Go.Addr.add, ↓reduceIte] at hx266_2)
             have qi266 : (1 < x6_2.length) = True := eq_true (by omega)
             (try rw [show ((1 : Int)).toNat = 1 from rfl] at hx266_0)
             (try rw [show 1 * 3 = 3 from rfl] at hx266_0)
             (try rw [show ((1 : Int)).toNat = 1 from rfl] at hx266_1)
             (try rw [show 1 * 3 = 3 from rfl] at hx266_1)
             (try rw [show ((1 : Int)).toNat = 1 from rfl] at hx266_2)
             (try rw [show 1 * 3 = 3 from rfl] at hx266_2)
             have HR266_2 := Aside0.mk hi266_2
             have HC266_2 := Aside0.mk hl266_2
             clear hi266_2 hl266_2
             replace p266 := eq_true p266
             replace q266 := eq_true q266
             have p267 : 0 ≤ ((ji40) : Int) := of_decide_eq_true (by first | (with_reducible assumption) | assumption)
             have q267 : (ji40) < (l0.length : Int) := of_decide_eq_true (by first | (with_reducible assumption) | assumption)
             obtain ⟨ad267, A267_2, c267_2, e267, hx267_0, hx267_1, hx267_2, hl267_2, hi267_2⟩ := at_T64 HR0.out (ji40) p267 q267
             have hw267_2 := hx267_2
             have hw267_1 := hx267_1
             have hw267_0 := hx267_0
             cases e267
             replace hx267_0 := (HB.out.cell (World.block_lt_of_cell? w _ hx267_0)).trans hx267_0
             replace hx267_1 := (HB.out.cell (World.block_lt_of_cell? w _ hx267_1)).trans hx267_1
             replace hx267_2 := (HB.out.cell (World.block_lt_of_cell? w _ hx267_2)).trans hx267_2
             have HR267_2 := Aside0.mk hi267_2
             have HC267_2 := Aside0.mk hl267_2
             clear hi267_2 hl267_2
             replace p267 := eq_true p267
             replace q267 := eq_true q267
             refine start_ (n := 9) (S := fun w' => w'.cell? ⟨ad260.block, ad260.off + 3, none⟩ = some (.bool ((rd_T64 x6_2 1).f0)) ∧ w'.cell? ⟨ad260.block, ad260.off + 3 + 1, none⟩ = some (.bool ((rd_T64 x6_2 1).f1)) ∧ w'.cell? ⟨ad260.block, ad260.off + 3 + 2, none⟩ = some (.slice A266_2 ((rd_T64 x6_2 1).f2).length c266_2) ∧ w'.cell? (ad267.add (((ji40)).toNat * 3)) = some (.bool ((rd_T64 l0 (ji40)).f0)) ∧ w'.cell? ⟨(ad267.add (((ji40)).toNat * 3)).block, (ad267.add (((ji40)).toNat * 3)).off + 1, none⟩ = some (.bool ((rd_T64 l0 (ji40)).f1)) ∧ w'.cell? ⟨(ad267.add (((ji40)).toNat * 3)).block, (ad267.add (((ji40)).toNat * 3)).off + 2, none⟩ = some (.slice A267_2 ((rd_T64 l0 (ji40)).f2).length c267_2)) (ds := []) #[false, false, false, false, false, false, false, false, false] (by kernel_rfl) rfl rfl ⟨hx266_0, hx266_1, hx266_2, ((HB.out.cell (World.block_lt_of_cell? w _ hw267_0)).trans hw267_0), ((HB.out.cell (World.block_lt_of_cell? w _ hw267_1)).trans hw267_1), ((HB.out.cell (World.block_lt_of_cell? w _ hw267_2)).trans hw267_2)⟩ (fun hHeld => ?_); refine with_tabW maquettelaw23_LiftOwn.tab14 maquettelaw23_LiftOwn.bits14 (fun HT_ HW_ => ?_)
             generalize wr.drew = w44 at HO_6 HB HL266_2 HR266_2 HR267_2 HX266_2 hx266_0 hx266_1 hx266_2 hx267_0 hx267_1 hx267_2 hHeld ⊢
             refine pu HT_ 0 (some 63) (mk 9 1) ?_
             refine pu HT_ 1 (some 64) (mk 9 3) ?_
             refine pu HT_ 3 (some 66) (mk 9 11) ?_
             refine pu HT_ 4 (some 67) (mk 9 27) ?_
             refine pu HT_ 5 (some 68) (mk 9 59) ?_
             refine tk HT_ HW_ 2 (some 65) (mk 9 63) hHeld ?_
             refine tk HT_ HW_ 6 (some 69) (mk 9 127) hHeld ?_
             refine on HT_ 7 (some 70) (mk 9 255) fun K hK => ?_
             refine goes_ Try.func22 (by kernel_rfl) rfl #[.agg #[.bool ((rd_T64 x6_2 1).f0), .bool ((rd_T64 x6_2 1).f1), .slice A266_2 ((rd_T64 x6_2 1).f2).length c266_2], .agg #[.bool ((rd_T64 l0 (ji40)).f0), .bool ((rd_T64 l0 (ji40)).f1), .slice A267_2 ((rd_T64 l0 (ji40)).f2).length c267_2]] (by rfl) rfl rfl (by (try simp only [List.map_toArray, List.map_cons, List.map_nil]); first | done | (simp only [hji40]; rfl) | rfl | (simp only [List.length_drop, List.length_take]; rfl)) ?_
             with_reducible refine (lift_Same.calls k2 ((rd_T64 x6_2 1).f0) ((rd_T64 x6_2 1).f1) _ _ ((rd_T64 x6_2 1).f2) ((rd_T64 l0 (ji40)).f0) ((rd_T64 l0 (ji40)).f1) _ _ ((rd_T64 l0 (ji40)).f2) t268 _ ?side1 ?side2 ?side3 ?side4 A43.out).mono ?_
             (case side1 => repeat (first | exact (by repeat (first | (with_reducible exact HR266_2.out) | (with_reducible refine Kd.C_alloc ?_ _) | (with_reducible refine Kd.C_drewN ?_ _) | (with_reducible refine Kd.C_drew ?_) | exact HR266_2.out)) | (with_reducible refine Kd.C_alloc ?_ _) | (with_reducible refine Kd.C_drewN ?_ _) | (with_reducible refine Kd.C_drew ?_)))
             (case side2 => exact HC266_2.out)
             (case side3 => repeat (first | exact (Kd.C_below HR267_2.out HB.out) | (with_reducible refine Kd.C_alloc ?_ _) | (with_reducible refine Kd.C_drewN ?_ _) | (with_reducible refine Kd.C_drew ?_)))
             (case side4 => exact HC267_2.out)
             rintro e w45 ⟨rfl, hb⟩
             have HS0_ := (hb.cell (World.block_lt_of_cell? _ _ (hHeld.1))).trans (hHeld.1)
             have HS1_ := (hb.cell (World.block_lt_of_cell? _ _ (hHeld.2.1))).trans (hHeld.2.1)
             have HS2_ := (hb.cell (World.block_lt_of_cell? _ _ (hHeld.2.2.1))).trans (hHeld.2.2.1)
             refine ⟨_, rfl, ?_⟩
             replace HO_6 := Aside0.mk (Kd.S_below (kS HO_6) hb)
             replace HL266_2 := Aside0.mk (Kd.R_below (by (with_reducible repeat (first | apply Kd.R_alloc | apply Kd.R_drewN | apply Kd.R_drew)); exact HL266_2.out) hb)
             replace HR266_2 := Aside0.mk (Kd.C_below (by repeat (first | (with_reducible exact HR266_2.out) | (with_reducible refine Kd.C_alloc ?_ _) | (with_reducible refine Kd.C_drewN ?_ _) | (with_reducible refine Kd.C_drew ?_) | exact HR266_2.out)) hb)
             replace HX266_2 := Aside0.mk (pw_cell_below hb HX266_2.out)
             replace HB := bst hb
             (try clear hb)
             (try clear hb2)
             (try clear hk)
             (try clear hi)
             refine hK.out _ _ ⟨HS0_, HS1_, HS2_, ((HB.out.cell (World.block_lt_of_cell? w _ hw267_0)).trans hw267_0), ((HB.out.cell (World.block_lt_of_cell? w _ hw267_1)).trans hw267_1), ((HB.out.cell (World.block_lt_of_cell? w _ hw267_2)).trans hw267_2)⟩ (fun hHeld => ?_)
             clear hK K
             refine nm (some 70) ?_
             refine pu HT_ 8 (some 4) (mk 9 511) ?_
             refine done_ (done_of HT_.out (by kernel_rfl)) ?_
             try go_wp2
             go_ret
             exact ⟨by first | rfl | (simp [errW_none, errW_some] <;> rfl) | (simp only [← hji40]; first | rfl | (simp [errW_none, errW_some] <;> rfl)) | (simp [*, errW_none, errW_some] <;> rfl), by repeat (first | (with_reducible first | exact HB.out | apply below_alloc | apply pw_below_drewN | apply below_drew1) | exact HB.out)⟩
            ·rw [if_neg c42] at H
             exact absurd H (by simp)
           ·rw [if_neg c41] at H
            exact absurd H (by simp)
          ·rw [if_neg c39] at H
           exact absurd H (by simp)
      ·rw [if_neg c30] at H
       exact absurd H (by simp)
 ·replace c4 := Bool.eq_false_iff.mpr c4
  subst c4
  have H1 : (some false) = some r := by rw [if_neg (show ¬ (false = true) by decide)] at H; exact H
  clear H
  have H := H1
  clear H1
  obtain rfl := Option.some.inj H
  go_enter Try.func7, Try.ntmps7
  go_wp2_with (first | ((with_reducible refine gate_dst (N := 8) rfl ?_); refine gl (some 8) Try.func20 #[] ?_; (with_reducible refine (maquettelaw23_awake.calls k  false _ A3.out).mono ?_); rintro e w46 ⟨rfl, hb⟩; refine ⟨_, rfl, ?_⟩; replace HB := bst hb; (try clear hb); (try clear hb2); (try clear hk); (try clear hi)))
  go_ret
  exact ⟨by first | rfl | (simp [errW_none, errW_some] <;> rfl) | (simp [*, errW_none, errW_some] <;> rfl), by repeat (first | (with_reducible first | exact HB.out | apply below_alloc | apply pw_below_drewN | apply below_drew1) | exact HB.out)⟩

end Go.Proofs.Ytkhbpjhlekldpaa.PLift
