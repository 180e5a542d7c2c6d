-- Written by wip/xprint.py of this work: the printer of the kit, with contracts of this work beside it, shortened.
import Derived.Test.YtkbjjamaneiijaaDoorShort
import Derived.Test.YtkbjjamaneiijaaDoorFuncs
import Derived.Test.YtkbjjamaneiijaaDoorPCovx0
import Derived.Test.YtkbjjamaneiijaaDoorPCovx4
import Derived.Test.YtkbjjamaneiijaaDoorPCovx14
import Derived.Test.YtkbjjamaneiijaaDoorPCovx15
import Derived.Test.YtkbjjamaneiijaaDoorPCovx16
namespace Go.Proofs.YtkbjjamaneiijaaDoor.PCov
open Go.RowKit Go.Proofs.YtkbjjamaneiijaaDoor.Short Go.Proofs.YtkbjjamaneiijaaDoorW.PrintWords Go.Proofs.YtkbjjamaneiijaaDoorW.PrintLast Go.Proofs.YtkbjjamaneiijaaDoorW.PrintMore
attribute [local go_sem] max2_int min2_int max_two min_two max_three min_three max_four min_four   -- for this text's walks alone
set_option linter.unusedVariables false
set_option linter.unusedSimpArgs false

/-! ### maquettelaw05_PrefixCovers: function 5 -/
def maquettelaw05_PrefixCovers.f (k : Nat) (a0 : Int) (a1 : Int) (a2_0 : Int) (a2_1 : Int) (a3_0 : Int) (a3_1 : Int) : Option (Bool) := (maquettelaw05_awake.f k).bind fun t151 => (if t151 = true then ((maquettelaw05_Make.f k a0).bind fun bt152 => ((maquettelaw05_Make.f k a1).bind fun bt154 => ((prefix_Covers.f bt152.1 bt152.2 bt154.1 bt154.2).bind fun t158 => ((maquettelaw05_PrefixCovers_1.f k bt152.1 bt152.2 bt154.1 bt154.2).bind fun t159 => (if (t158 == t159) = true then ((prefix_Covers.f a2_0 a2_1 a3_0 a3_1).bind fun t160 => ((maquettelaw05_PrefixCovers_1.f k a2_0 a2_1 a3_0 a3_1).bind fun t161 => (if (t160 == t161) = true then ((prefix_Covers.f bt152.1 bt152.2 bt152.1 bt152.2).bind fun t162 => (some t162)) else (some false)))) else (some false)))))) else (some false))
theorem maquettelaw05_PrefixCovers.mono : ∀ a0 a1 a2 a3 a4 a5 k, LeO (maquettelaw05_PrefixCovers.f k a0 a1 a2 a3 a4 a5) (maquettelaw05_PrefixCovers.f (k + 1) a0 a1 a2 a3 a4 a5) := by
 intro a0 a1 a2 a3 a4 a5 k
 unfold maquettelaw05_PrefixCovers.f
 repeat' first
   | (with_reducible exact maquettelaw05_Make.mono _ _)
   | (with_reducible exact maquettelaw05_PrefixCovers_1.mono _ _ _ _ _)
   | (with_reducible exact maquettelaw05_awake.mono _)
   | (with_reducible exact LeO.refl _)
   | (with_reducible exact LeO.none _)
   | (with_reducible refine LeO.ite ?_ ?_)
   | (with_reducible refine LeO.bind ?_ (fun _ => ?_))
   | exact maquettelaw05_Make.mono _ _
   | exact maquettelaw05_PrefixCovers_1.mono _ _ _ _ _
   | exact maquettelaw05_awake.mono _
   | exact LeO.none _
   | refine LeO.ite ?_ ?_
   | refine LeO.bind ?_ (fun _ => ?_)
def maquettelaw05_PrefixCovers.T5 : Bool × List (List Nat × List Nat) := (true, [([], []), ([], []), ([0, 1], [0, 1]), ([], []), ([], []), ([], []), ([3, 4, 5, 2], [3, 4, 5]), ([2, 6], [2, 6]), ([7, 6], [7]), ([8], [8]), ([8], [8]), ([9, 10, 8, 8], [8, 9, 10]), ([8], [8]), ([8], [8]), ([8], [8]), ([12, 13, 14, 11, 8], [8, 12, 13, 14]), ([11, 15, 8], [8, 11, 15]), ([8, 16], [8, 16]), ([17, 15], [17]), ([18], [18]), ([18], [18]), ([19, 20, 18, 18], [18, 19, 20]), ([18, 21], [18, 21]), ([22, 21, 0, 1, 2, 3, 4, 5, 6, 7, 8, 9, 10, 11, 12, 13, 14, 15, 16, 17, 18, 19, 20, 21, 22], [22])])
def maquettelaw05_PrefixCovers.B5 : List Nat := [0, 0, 3, 0, 0, 0, 63, 127, 255, 511, 511, 2047, 511, 511, 511, 32767, 65535, 131071, 262143, 524287, 524287, 2097151, 4194303, 8388607]
theorem maquettelaw05_PrefixCovers.tab5 : rtab .any (opsOf Tryd.f5 5) = maquettelaw05_PrefixCovers.T5 := by kernel_rfl
theorem maquettelaw05_PrefixCovers.bits5 : waitsOk maquettelaw05_PrefixCovers.T5.2 maquettelaw05_PrefixCovers.B5 = true := by kernel_rfl
set_option maxHeartbeats 8000000 in
set_option maxRecDepth 100000 in
theorem maquettelaw05_PrefixCovers.calls (k : Nat) (a0 : Int) (a1 : Int) (a2_0 : Int) (a2_1 : Int) (a3_0 : Int) (a3_1 : Int) (r : Bool) (w : World) (h : maquettelaw05_PrefixCovers.f k a0 a1 a2_0 a2_1 a3_0 a3_1 = some r) (hInv : Go.Proofs.YtkbjjamaneiijaaDoor.Inv.Inv w) :
  Calls Tryd.prog 5 #[.int .u8 a0, .int .u8 a1, .agg #[.int .u32 a2_0, .int .i64 a2_1], .agg #[.int .u32 a3_0, .int .i64 a3_1]] w fun e w' => e = .returned (.bool r) ∧ Below w.heap.size w w' := by
 have hu24 := Tryd.underlying24
 have HB := Aside0.mk (Below.refl w.heap.size w)
 have H : ((maquettelaw05_awake.f k).bind fun t151 => (if t151 = true then ((maquettelaw05_Make.f k a0).bind fun bt152 => ((maquettelaw05_Make.f k a1).bind fun bt154 => ((prefix_Covers.f bt152.1 bt152.2 bt154.1 bt154.2).bind fun t158 => ((maquettelaw05_PrefixCovers_1.f k bt152.1 bt152.2 bt154.1 bt154.2).bind fun t159 => (if (t158 == t159) = true then ((prefix_Covers.f a2_0 a2_1 a3_0 a3_1).bind fun t160 => ((maquettelaw05_PrefixCovers_1.f k a2_0 a2_1 a3_0 a3_1).bind fun t161 => (if (t160 == t161) = true then ((prefix_Covers.f bt152.1 bt152.2 bt152.1 bt152.2).bind fun t162 => (some t162)) else (some false)))) else (some false)))))) else (some false))) = some r := h
 clear h
 replace H := Option.bind_eq_some_iff.mp H
 obtain ⟨t151, A50, H⟩ := H
 replace H : (if t151 = true then ((maquettelaw05_Make.f k a0).bind fun bt152 => ((maquettelaw05_Make.f k a1).bind fun bt154 => ((prefix_Covers.f bt152.1 bt152.2 bt154.1 bt154.2).bind fun t158 => ((maquettelaw05_PrefixCovers_1.f k bt152.1 bt152.2 bt154.1 bt154.2).bind fun t159 => (if (t158 == t159) = true then ((prefix_Covers.f a2_0 a2_1 a3_0 a3_1).bind fun t160 => ((maquettelaw05_PrefixCovers_1.f k a2_0 a2_1 a3_0 a3_1).bind fun t161 => (if (t160 == t161) = true then ((prefix_Covers.f bt152.1 bt152.2 bt152.1 bt152.2).bind fun t162 => (some t162)) else (some false)))) else (some false)))))) else (some false)) = some r := H
 have A5 := Aside0.mk A50
 clear A50
 by_cases c6 : t151 = true
 ·subst c6
  have H1 : ((maquettelaw05_Make.f k a0).bind fun bt152 => ((maquettelaw05_Make.f k a1).bind fun bt154 => ((prefix_Covers.f bt152.1 bt152.2 bt154.1 bt154.2).bind fun t158 => ((maquettelaw05_PrefixCovers_1.f k bt152.1 bt152.2 bt154.1 bt154.2).bind fun t159 => (if (t158 == t159) = true then ((prefix_Covers.f a2_0 a2_1 a3_0 a3_1).bind fun t160 => ((maquettelaw05_PrefixCovers_1.f k a2_0 a2_1 a3_0 a3_1).bind fun t161 => (if (t160 == t161) = true then ((prefix_Covers.f bt152.1 bt152.2 bt152.1 bt152.2).bind fun t162 => (some t162)) else (some false)))) else (some false)))))) = some r := by rw [if_pos rfl] at H; exact H
  clear H
  have H := H1
  clear H1
  replace H := Option.bind_eq_some_iff.mp H
  obtain ⟨⟨t152, t153⟩, A70, H⟩ := H
  replace H : ((maquettelaw05_Make.f k a1).bind fun bt154 => ((prefix_Covers.f t152 t153 bt154.1 bt154.2).bind fun t158 => ((maquettelaw05_PrefixCovers_1.f k t152 t153 bt154.1 bt154.2).bind fun t159 => (if (t158 == t159) = true then ((prefix_Covers.f a2_0 a2_1 a3_0 a3_1).bind fun t160 => ((maquettelaw05_PrefixCovers_1.f k a2_0 a2_1 a3_0 a3_1).bind fun t161 => (if (t160 == t161) = true then ((prefix_Covers.f t152 t153 t152 t153).bind fun t162 => (some t162)) else (some false)))) else (some false))))) = some r := H
  have A7 := Aside0.mk A70
  clear A70
  replace H := Option.bind_eq_some_iff.mp H
  obtain ⟨⟨t154, t155⟩, A80, H⟩ := H
  replace H : ((prefix_Covers.f t152 t153 t154 t155).bind fun t158 => ((maquettelaw05_PrefixCovers_1.f k t152 t153 t154 t155).bind fun t159 => (if (t158 == t159) = true then ((prefix_Covers.f a2_0 a2_1 a3_0 a3_1).bind fun t160 => ((maquettelaw05_PrefixCovers_1.f k a2_0 a2_1 a3_0 a3_1).bind fun t161 => (if (t160 == t161) = true then ((prefix_Covers.f t152 t153 t152 t153).bind fun t162 => (some t162)) else (some false)))) else (some false)))) = some r := H
  have A8 := Aside0.mk A80
  clear A80
  replace H := Option.bind_eq_some_iff.mp H
  obtain ⟨t158, A90, H⟩ := H
  replace H : ((maquettelaw05_PrefixCovers_1.f k t152 t153 t154 t155).bind fun t159 => (if (t158 == t159) = true then ((prefix_Covers.f a2_0 a2_1 a3_0 a3_1).bind fun t160 => ((maquettelaw05_PrefixCovers_1.f k a2_0 a2_1 a3_0 a3_1).bind fun t161 => (if (t160 == t161) = true then ((prefix_Covers.f t152 t153 t152 t153).bind fun t162 => (some t162)) else (some false)))) else (some false))) = some r := H
  have A9 := Aside0.mk A90
  clear A90
  replace H := Option.bind_eq_some_iff.mp H
  obtain ⟨t159, A100, H⟩ := H
  replace H : (if (t158 == t159) = true then ((prefix_Covers.f a2_0 a2_1 a3_0 a3_1).bind fun t160 => ((maquettelaw05_PrefixCovers_1.f k a2_0 a2_1 a3_0 a3_1).bind fun t161 => (if (t160 == t161) = true then ((prefix_Covers.f t152 t153 t152 t153).bind fun t162 => (some t162)) else (some false)))) else (some false)) = some r := H
  have A10 := Aside0.mk A100
  clear A100
  by_cases c11 : (t158 == t159) = true
  ·rw [if_pos c11] at H
   have c11b0 : (t158 == t159) = true := c11
   (try (have c11b1 : decide (t158 = t159) = true := by simpa using c11))
   (try (have c11b2 : (t158 == t159) = true := by simpa using c11))
   clear c11
   replace H := Option.bind_eq_some_iff.mp H
   obtain ⟨t160, A120, H⟩ := H
   replace H : ((maquettelaw05_PrefixCovers_1.f k a2_0 a2_1 a3_0 a3_1).bind fun t161 => (if (t160 == t161) = true then ((prefix_Covers.f t152 t153 t152 t153).bind fun t162 => (some t162)) else (some false))) = some r := H
   have A12 := Aside0.mk A120
   clear A120
   replace H := Option.bind_eq_some_iff.mp H
   obtain ⟨t161, A130, H⟩ := H
   replace H : (if (t160 == t161) = true then ((prefix_Covers.f t152 t153 t152 t153).bind fun t162 => (some t162)) else (some false)) = some r := H
   have A13 := Aside0.mk A130
   clear A130
   by_cases c14 : (t160 == t161) = true
   ·rw [if_pos c14] at H
    have c14b0 : (t160 == t161) = true := c14
    (try (have c14b1 : decide (t160 = t161) = true := by simpa using c14))
    (try (have c14b2 : (t160 == t161) = true := by simpa using c14))
    clear c14
    replace H := Option.bind_eq_some_iff.mp H
    obtain ⟨t162, A150, H⟩ := H
    replace H : (some t162) = some r := H
    have A15 := Aside0.mk A150
    clear A150
    obtain rfl := Option.some.inj H
    go_enter Tryd.func5, Tryd.ntmps5
    try go_wp2_with (first | ((with_reducible refine gate_dst (N := 6) rfl ?_); refine bx 6 (cs := #[.int .u32 a2_0, .int .i64 a2_1]) (t := 24) (h := ?_); intro gb149 hg w16 hbox hb; have BK149 := Aside0.mk hbox; have GW149 : Aside0 (w.heap.size ≤ gb149) := bge hg; have GE149 : Aside0 (w.heap.size ≤ gb149) := bge hg; replace HB := bst hb; clear hb hbox hg) | ((with_reducible refine gate_dst (N := 7) rfl ?_); refine bx 7 (cs := #[.int .u32 a3_0, .int .i64 a3_1]) (t := 24) (h := ?_); intro gb150 hg w17 hbox hb; have BK150 := Aside0.mk hbox; have GW150 : Aside0 (w.heap.size ≤ gb150) := bge hg; have GE150 : Aside0 (w.heap.size ≤ gb150) := bge hg; have NB149_150 := bne BK149 hg; have NB150_149 := bnf BK149 hg; replace BK149 := bkb BK149 hb; replace HB := bst hb; clear hb hbox hg) | ((with_reducible refine gate_dst (N := 12) rfl ?_); refine gl (some 12) Tryd.func15 #[] ?_; (with_reducible refine (maquettelaw05_awake.calls k  true _ A5.out (by with_reducible first | exact hInv | exact Go.Proofs.YtkbjjamaneiijaaDoor.Inv.Inv.below hInv HB.out | exact Go.Proofs.YtkbjjamaneiijaaDoor.Inv.Inv.below hInv bel | (repeat (first | exact hInv | exact Go.Proofs.YtkbjjamaneiijaaDoor.Inv.Inv.below hInv HB.out | exact Go.Proofs.YtkbjjamaneiijaaDoor.Inv.Inv.below hInv bel | apply Go.Proofs.YtkbjjamaneiijaaDoor.Inv.Inv.alloc | apply Go.Proofs.YtkbjjamaneiijaaDoor.Inv.Inv.drewN | apply Go.Proofs.YtkbjjamaneiijaaDoor.Inv.Inv.drew)))).mono ?_); rintro e w18 ⟨rfl, hb⟩; refine ⟨_, rfl, ?_⟩; replace BK149 := bkb BK149 hb; replace BK150 := bkb BK150 hb; replace HB := bst hb; (try clear hb); (try clear hb2); (try clear hk); (try clear hi)) | ((with_reducible refine gate_dst (N := 15) rfl ?_); refine gl (some 15) Tryd.func19 #[.int .u8 a0] ?_; (with_reducible refine (maquettelaw05_Make.calls k a0 t152 t153 _ A7.out).mono ?_); rintro e w19 ⟨rfl, hb⟩; refine ⟨_, rfl, ?_⟩; replace BK149 := bkb BK149 hb; replace BK150 := bkb BK150 hb; replace HB := bst hb; (try clear hb); (try clear hb2); (try clear hk); (try clear hi)) | ((with_reducible refine gate_dst (N := 17) rfl ?_); refine gl (some 17) Tryd.func19 #[.int .u8 a1] ?_; (with_reducible refine (maquettelaw05_Make.calls k a1 t154 t155 _ A8.out).mono ?_); rintro e w20 ⟨rfl, hb⟩; refine ⟨_, rfl, ?_⟩; replace BK149 := bkb BK149 hb; replace BK150 := bkb BK150 hb; replace HB := bst hb; (try clear hb); (try clear hb2); (try clear hk); (try clear hi)) | ((with_reducible refine gate_dst (N := 10) rfl ?_); refine bx 10 (cs := #[.int .u32 0, .int .i64 0]) (t := 24) (h := ?_); intro gb156 hg w21 hbox hb; have BK156 := Aside0.mk hbox; have GW156 : Aside0 (w.heap.size ≤ gb156) := bge hg; have GE156 : Aside0 (w.heap.size ≤ gb156) := bge hg; have NB149_156 := bne BK149 hg; have NB156_149 := bnf BK149 hg; have NB150_156 := bne BK150 hg; have NB156_150 := bnf BK150 hg; replace BK149 := bkb BK149 hb; replace BK150 := bkb BK150 hb; replace HB := bst hb; clear hb hbox hg) | ((with_reducible refine gate_dst (N := 11) rfl ?_); refine bx 11 (cs := #[.int .u32 0, .int .i64 0]) (t := 24) (h := ?_); intro gb157 hg w22 hbox hb; have BK157 := Aside0.mk hbox; have GW157 : Aside0 (w.heap.size ≤ gb157) := bge hg; have GE157 : Aside0 (w.heap.size ≤ gb157) := bge hg; have NB149_157 := bne BK149 hg; have NB157_149 := bnf BK149 hg; have NB150_157 := bne BK150 hg; have NB157_150 := bnf BK150 hg; have NB156_157 := bne BK156 hg; have NB157_156 := bnf BK156 hg; replace BK149 := bkb BK149 hb; replace BK150 := bkb BK150 hb; replace BK156 := bkb BK156 hb; replace HB := bst hb; clear hb hbox hg; have hnb23 := NB156_149.out; have hnc23 := NB149_156.out; have hnb24 := NB156_150.out; have hnc24 := NB150_156.out; have hnb25 := NB156_157.out; have hnc25 := NB157_156.out; obtain ⟨hcz26_0, hcz26_1, hfz26_0, hfz26_1⟩ := bc2 BK156; have hnb27 := NB157_149.out; have hnc27 := NB149_157.out; have hnb28 := NB157_150.out; have hnc28 := NB150_157.out; obtain ⟨hcz29_0, hcz29_1, hfz29_0, hfz29_1⟩ := bc2 BK157))
    have n0_ : Aside0 (((((w22.setCell ⟨gb156, 0, none⟩ (.int .u32 t152)).setCell ⟨gb156, 1, none⟩ (.int .i64 t153)).setCell ⟨gb157, 0, none⟩ (.int .u32 t154)).setCell ⟨gb157, 1, none⟩ (.int .i64 t155)).heap[gb149]? = some (.cells #[.int .u32 a2_0, .int .i64 a2_1] 24 (0, 0))) := ⟨bkq BK149⟩
    have n1_ : Aside0 (((((w22.setCell ⟨gb156, 0, none⟩ (.int .u32 t152)).setCell ⟨gb156, 1, none⟩ (.int .i64 t153)).setCell ⟨gb157, 0, none⟩ (.int .u32 t154)).setCell ⟨gb157, 1, none⟩ (.int .i64 t155)).heap[gb150]? = some (.cells #[.int .u32 a3_0, .int .i64 a3_1] 24 (0, 0))) := ⟨bkq BK150⟩
    have n2_ : Aside0 (((((w22.setCell ⟨gb156, 0, none⟩ (.int .u32 t152)).setCell ⟨gb156, 1, none⟩ (.int .i64 t153)).setCell ⟨gb157, 0, none⟩ (.int .u32 t154)).setCell ⟨gb157, 1, none⟩ (.int .i64 t155)).heap[gb156]? = some (.cells #[.int .u32 t152, .int .i64 t153] 24 (0, 0))) := ⟨bkp BK156⟩
    have n3_ : Aside0 (((((w22.setCell ⟨gb156, 0, none⟩ (.int .u32 t152)).setCell ⟨gb156, 1, none⟩ (.int .i64 t153)).setCell ⟨gb157, 0, none⟩ (.int .u32 t154)).setCell ⟨gb157, 1, none⟩ (.int .i64 t155)).heap[gb157]? = some (.cells #[.int .u32 t154, .int .i64 t155] 24 (0, 0))) := ⟨bkp BK157⟩
    have n4_ : Aside0 (Below w.heap.size w ((((w22.setCell ⟨gb156, 0, none⟩ (.int .u32 t152)).setCell ⟨gb156, 1, none⟩ (.int .i64 t153)).setCell ⟨gb157, 0, none⟩ (.int .u32 t154)).setCell ⟨gb157, 1, none⟩ (.int .i64 t155))) := ⟨by repeat (first | (with_reducible first | exact HB.out | apply below_alloc | apply pw_below_drewN | apply below_drew1 | refine below_set ?_ GE149.out | refine below_set ?_ GE150.out | refine below_set ?_ GE156.out | refine below_set ?_ GE157.out) | exact HB.out)⟩
    (try clear BK149)
    (try clear BK150)
    (try clear BK156)
    (try clear BK157)
    (try clear HB)
    generalize ((((w22.setCell ⟨gb156, 0, none⟩ (.int .u32 t152)).setCell ⟨gb156, 1, none⟩ (.int .i64 t153)).setCell ⟨gb157, 0, none⟩ (.int .u32 t154)).setCell ⟨gb157, 1, none⟩ (.int .i64 t155)) = w30 at n0_ n1_ n2_ n3_ n4_ ⊢
    have BK149 := n0_
    have BK150 := n1_
    have BK156 := n2_
    have BK157 := n3_
    have HB := n4_
    clear n0_ n1_ n2_ n3_ n4_
    replace BK149 := Aside0.mk (blk_drew BK149.out)
    replace BK150 := Aside0.mk (blk_drew BK150.out)
    replace BK156 := Aside0.mk (blk_drew BK156.out)
    replace BK157 := Aside0.mk (blk_drew BK157.out)
    replace HB := Aside0.mk (below_drew1 HB.out)
    refine start_ (n := 24) (S := fun w' => w'.cell? ⟨gb156, 0, none⟩ = some (.int .u32 t152) ∧ w'.cell? ⟨gb156, 1, none⟩ = some (.int .i64 t153) ∧ w'.cell? ⟨gb157, 0, none⟩ = some (.int .u32 t154) ∧ w'.cell? ⟨gb157, 1, none⟩ = some (.int .i64 t155) ∧ w'.cell? ⟨gb149, 0, none⟩ = some (.int .u32 a2_0) ∧ w'.cell? ⟨gb149, 1, none⟩ = some (.int .i64 a2_1) ∧ w'.cell? ⟨gb150, 0, none⟩ = some (.int .u32 a3_0) ∧ w'.cell? ⟨gb150, 1, none⟩ = some (.int .i64 a3_1)) (ds := []) #[false, false, false, false, false, false, false, false, false, false, false, false, false, false, false, false, false, false, false, false, false, false, false, false] (by kernel_rfl) rfl rfl ⟨(blk_cell BK156.out 0).trans rfl, (blk_cell BK156.out 1).trans rfl, (blk_cell BK157.out 0).trans rfl, (blk_cell BK157.out 1).trans rfl, (blk_cell BK149.out 0).trans rfl, (blk_cell BK149.out 1).trans rfl, (blk_cell BK150.out 0).trans rfl, (blk_cell BK150.out 1).trans rfl⟩ (fun hHeld => ?_); refine with_tabW maquettelaw05_PrefixCovers.tab5 maquettelaw05_PrefixCovers.bits5 (fun HT_ HW_ => ?_)
    generalize w30.drew = w31 at BK149 BK150 BK156 BK157 HB hHeld ⊢
    refine pu HT_ 3 (some 21) (mk 24 8) ?_
    refine tk HT_ HW_ 0 (some 18) (mk 24 9) hHeld ?_
    refine tk HT_ HW_ 1 (some 19) (mk 24 11) hHeld ?_
    refine tk HT_ HW_ 4 (some 22) (mk 24 27) hHeld ?_
    refine tk HT_ HW_ 5 (some 23) (mk 24 59) hHeld ?_
    refine on HT_ 2 (some 20) (mk 24 63) fun K hK => ?_
    refine go1 Tryd.func24 #[.agg #[.int .u32 t152, .int .i64 t153], .agg #[.int .u32 t154, .int .i64 t155]] ?_
    with_reducible refine (prefix_Covers.calls t152 t153 t154 t155 t158 _ A9.out).mono ?_
    rintro e w32 ⟨rfl, hb⟩
    refine ⟨_, rfl, ?_⟩
    replace BK149 := bkb BK149 hb
    replace BK150 := bkb BK150 hb
    replace BK156 := bkb BK156 hb
    replace BK157 := bkb BK157 hb
    replace HB := bst hb
    (try clear hb)
    (try clear hb2)
    (try clear hk)
    (try clear hi)
    refine hK.out _ _ ⟨(blk_cell BK156.out 0).trans rfl, (blk_cell BK156.out 1).trans rfl, (blk_cell BK157.out 0).trans rfl, (blk_cell BK157.out 1).trans rfl, (blk_cell BK149.out 0).trans rfl, (blk_cell BK149.out 1).trans rfl, (blk_cell BK150.out 0).trans rfl, (blk_cell BK150.out 1).trans rfl⟩ (fun hHeld => ?_)
    clear hK K
    refine nm (some 20) ?_
    refine on HT_ 6 (some 24) (mk 24 127) fun K hK => ?_
    refine Go.Proofs.YtkbjjamaneiijaaDoor.Funcs.go1f Tryd.func22 #[.agg #[.int .u32 t152, .int .i64 t153], .agg #[.int .u32 t154, .int .i64 t155]] ?_
    with_reducible refine (maquettelaw05_PrefixCovers_1.calls k t152 t153 t154 t155 t159 _ A10.out).mono ?_
    rintro e w33 ⟨rfl, hb⟩
    refine ⟨_, rfl, ?_⟩
    replace BK149 := bkb BK149 hb
    replace BK150 := bkb BK150 hb
    replace BK156 := bkb BK156 hb
    replace BK157 := bkb BK157 hb
    replace HB := bst hb
    (try clear hb)
    (try clear hb2)
    (try clear hk)
    (try clear hi)
    refine hK.out _ _ ⟨(blk_cell BK156.out 0).trans rfl, (blk_cell BK156.out 1).trans rfl, (blk_cell BK157.out 0).trans rfl, (blk_cell BK157.out 1).trans rfl, (blk_cell BK149.out 0).trans rfl, (blk_cell BK149.out 1).trans rfl, (blk_cell BK150.out 0).trans rfl, (blk_cell BK150.out 1).trans rfl⟩ (fun hHeld => ?_)
    clear hK K
    refine nm (some 24) ?_
    refine pu HT_ 7 (some 25) (mk 24 255) ?_
    refine pu HT_ 8 (some 26) (mk 24 511) ?_
    refine pu HT_ 12 (some 30) (mk 24 4607) ?_
    refine tk HT_ HW_ 9 (some 27) (mk 24 5119) hHeld ?_
    refine tk HT_ HW_ 10 (some 28) (mk 24 6143) hHeld ?_
    refine tk HT_ HW_ 13 (some 31) (mk 24 14335) hHeld ?_
    refine tk HT_ HW_ 14 (some 32) (mk 24 30719) hHeld ?_
    refine on HT_ 11 (some 29) (mk 24 32767) fun K hK => ?_
    refine go1 Tryd.func24 #[.agg #[.int .u32 a2_0, .int .i64 a2_1], .agg #[.int .u32 a3_0, .int .i64 a3_1]] ?_
    with_reducible refine (prefix_Covers.calls a2_0 a2_1 a3_0 a3_1 t160 _ A12.out).mono ?_
    rintro e w34 ⟨rfl, hb⟩
    refine ⟨_, rfl, ?_⟩
    replace BK149 := bkb BK149 hb
    replace BK150 := bkb BK150 hb
    replace BK156 := bkb BK156 hb
    replace BK157 := bkb BK157 hb
    replace HB := bst hb
    (try clear hb)
    (try clear hb2)
    (try clear hk)
    (try clear hi)
    refine hK.out _ _ ⟨(blk_cell BK156.out 0).trans rfl, (blk_cell BK156.out 1).trans rfl, (blk_cell BK157.out 0).trans rfl, (blk_cell BK157.out 1).trans rfl, (blk_cell BK149.out 0).trans rfl, (blk_cell BK149.out 1).trans rfl, (blk_cell BK150.out 0).trans rfl, (blk_cell BK150.out 1).trans rfl⟩ (fun hHeld => ?_)
    clear hK K
    refine nm (some 29) ?_
    refine on HT_ 15 (some 33) (mk 24 65535) fun K hK => ?_
    refine Go.Proofs.YtkbjjamaneiijaaDoor.Funcs.go1f Tryd.func22 #[.agg #[.int .u32 a2_0, .int .i64 a2_1], .agg #[.int .u32 a3_0, .int .i64 a3_1]] ?_
    with_reducible refine (maquettelaw05_PrefixCovers_1.calls k a2_0 a2_1 a3_0 a3_1 t161 _ A13.out).mono ?_
    rintro e w35 ⟨rfl, hb⟩
    refine ⟨_, rfl, ?_⟩
    replace BK149 := bkb BK149 hb
    replace BK150 := bkb BK150 hb
    replace BK156 := bkb BK156 hb
    replace BK157 := bkb BK157 hb
    replace HB := bst hb
    (try clear hb)
    (try clear hb2)
    (try clear hk)
    (try clear hi)
    refine hK.out _ _ ⟨(blk_cell BK156.out 0).trans rfl, (blk_cell BK156.out 1).trans rfl, (blk_cell BK157.out 0).trans rfl, (blk_cell BK157.out 1).trans rfl, (blk_cell BK149.out 0).trans rfl, (blk_cell BK149.out 1).trans rfl, (blk_cell BK150.out 0).trans rfl, (blk_cell BK150.out 1).trans rfl⟩ (fun hHeld => ?_)
    clear hK K
    refine nm (some 33) ?_
    refine pu HT_ 16 (some 34) (mk 24 131071) ?_
    refine pu HT_ 17 (some 35) (mk 24 262143) ?_
    refine pu HT_ 18 (some 36) (mk 24 524287) ?_
    refine tk HT_ HW_ 19 (some 37) (mk 24 1048575) hHeld ?_
    refine tk HT_ HW_ 20 (some 38) (mk 24 2097151) hHeld ?_
    refine on HT_ 21 (some 39) (mk 24 4194303) fun K hK => ?_
    refine go1 Tryd.func24 #[.agg #[.int .u32 t152, .int .i64 t153], .agg #[.int .u32 t152, .int .i64 t153]] ?_
    with_reducible refine (prefix_Covers.calls t152 t153 t152 t153 t162 _ A15.out).mono ?_
    rintro e w36 ⟨rfl, hb⟩
    refine ⟨_, rfl, ?_⟩
    replace BK149 := bkb BK149 hb
    replace BK150 := bkb BK150 hb
    replace BK156 := bkb BK156 hb
    replace BK157 := bkb BK157 hb
    replace HB := bst hb
    (try clear hb)
    (try clear hb2)
    (try clear hk)
    (try clear hi)
    refine hK.out _ _ ⟨(blk_cell BK156.out 0).trans rfl, (blk_cell BK156.out 1).trans rfl, (blk_cell BK157.out 0).trans rfl, (blk_cell BK157.out 1).trans rfl, (blk_cell BK149.out 0).trans rfl, (blk_cell BK149.out 1).trans rfl, (blk_cell BK150.out 0).trans rfl, (blk_cell BK150.out 1).trans rfl⟩ (fun hHeld => ?_)
    clear hK K
    refine nm (some 39) ?_
    refine pu HT_ 22 (some 40) (mk 24 8388607) ?_
    refine pu HT_ 23 (some 8) (mk 24 16777215) ?_
    refine done_ (done_of HT_.out (by kernel_rfl)) ?_
    try go_wp2
    go_ret
    exact ⟨by first | rfl | (simp [errW_none, errW_some] <;> rfl) | (simp [*, errW_none, errW_some] <;> rfl), by repeat (first | (with_reducible first | exact HB.out | apply below_alloc | apply pw_below_drewN | apply below_drew1 | refine below_set ?_ GE149.out | refine below_set ?_ GE150.out | refine below_set ?_ GE156.out | refine below_set ?_ GE157.out) | exact HB.out)⟩
   ·rw [if_neg c14] at H
    have c14b0 : (t160 == t161) = false := by simpa using c14
    (try (have c14b1 : decide (t160 = t161) = false := by simpa using c14))
    (try (have c14b2 : (t160 == t161) = false := by simpa using c14))
    (try (have c14b3 : ¬ (t160 = t161) := by simpa using c14))
    clear c14
    obtain rfl := Option.some.inj H
    go_enter Tryd.func5, Tryd.ntmps5
    try go_wp2_with (first | ((with_reducible refine gate_dst (N := 6) rfl ?_); refine bx 6 (cs := #[.int .u32 a2_0, .int .i64 a2_1]) (t := 24) (h := ?_); intro gb149 hg w37 hbox hb; have BK149 := Aside0.mk hbox; have GW149 : Aside0 (w.heap.size ≤ gb149) := bge hg; have GE149 : Aside0 (w.heap.size ≤ gb149) := bge hg; replace HB := bst hb; clear hb hbox hg) | ((with_reducible refine gate_dst (N := 7) rfl ?_); refine bx 7 (cs := #[.int .u32 a3_0, .int .i64 a3_1]) (t := 24) (h := ?_); intro gb150 hg w38 hbox hb; have BK150 := Aside0.mk hbox; have GW150 : Aside0 (w.heap.size ≤ gb150) := bge hg; have GE150 : Aside0 (w.heap.size ≤ gb150) := bge hg; have NB149_150 := bne BK149 hg; have NB150_149 := bnf BK149 hg; replace BK149 := bkb BK149 hb; replace HB := bst hb; clear hb hbox hg) | ((with_reducible refine gate_dst (N := 12) rfl ?_); refine gl (some 12) Tryd.func15 #[] ?_; (with_reducible refine (maquettelaw05_awake.calls k  true _ A5.out (by with_reducible first | exact hInv | exact Go.Proofs.YtkbjjamaneiijaaDoor.Inv.Inv.below hInv HB.out | exact Go.Proofs.YtkbjjamaneiijaaDoor.Inv.Inv.below hInv bel | (repeat (first | exact hInv | exact Go.Proofs.YtkbjjamaneiijaaDoor.Inv.Inv.below hInv HB.out | exact Go.Proofs.YtkbjjamaneiijaaDoor.Inv.Inv.below hInv bel | apply Go.Proofs.YtkbjjamaneiijaaDoor.Inv.Inv.alloc | apply Go.Proofs.YtkbjjamaneiijaaDoor.Inv.Inv.drewN | apply Go.Proofs.YtkbjjamaneiijaaDoor.Inv.Inv.drew)))).mono ?_); rintro e w39 ⟨rfl, hb⟩; refine ⟨_, rfl, ?_⟩; replace BK149 := bkb BK149 hb; replace BK150 := bkb BK150 hb; replace HB := bst hb; (try clear hb); (try clear hb2); (try clear hk); (try clear hi)) | ((with_reducible refine gate_dst (N := 15) rfl ?_); refine gl (some 15) Tryd.func19 #[.int .u8 a0] ?_; (with_reducible refine (maquettelaw05_Make.calls k a0 t152 t153 _ A7.out).mono ?_); rintro e w40 ⟨rfl, hb⟩; refine ⟨_, rfl, ?_⟩; replace BK149 := bkb BK149 hb; replace BK150 := bkb BK150 hb; replace HB := bst hb; (try clear hb); (try clear hb2); (try clear hk); (try clear hi)) | ((with_reducible refine gate_dst (N := 17) rfl ?_); refine gl (some 17) Tryd.func19 #[.int .u8 a1] ?_; (with_reducible refine (maquettelaw05_Make.calls k a1 t154 t155 _ A8.out).mono ?_); rintro e w41 ⟨rfl, hb⟩; refine ⟨_, rfl, ?_⟩; replace BK149 := bkb BK149 hb; replace BK150 := bkb BK150 hb; replace HB := bst hb; (try clear hb); (try clear hb2); (try clear hk); (try clear hi)) | ((with_reducible refine gate_dst (N := 10) rfl ?_); refine bx 10 (cs := #[.int .u32 0, .int .i64 0]) (t := 24) (h := ?_); intro gb156 hg w42 hbox hb; have BK156 := Aside0.mk hbox; have GW156 : Aside0 (w.heap.size ≤ gb156) := bge hg; have GE156 : Aside0 (w.heap.size ≤ gb156) := bge hg; have NB149_156 := bne BK149 hg; have NB156_149 := bnf BK149 hg; have NB150_156 := bne BK150 hg; have NB156_150 := bnf BK150 hg; replace BK149 := bkb BK149 hb; replace BK150 := bkb BK150 hb; replace HB := bst hb; clear hb hbox hg) | ((with_reducible refine gate_dst (N := 11) rfl ?_); refine bx 11 (cs := #[.int .u32 0, .int .i64 0]) (t := 24) (h := ?_); intro gb157 hg w43 hbox hb; have BK157 := Aside0.mk hbox; have GW157 : Aside0 (w.heap.size ≤ gb157) := bge hg; have GE157 : Aside0 (w.heap.size ≤ gb157) := bge hg; have NB149_157 := bne BK149 hg; have NB157_149 := bnf BK149 hg; have NB150_157 := bne BK150 hg; have NB157_150 := bnf BK150 hg; have NB156_157 := bne BK156 hg; have NB157_156 := bnf BK156 hg; replace BK149 := bkb BK149 hb; replace BK150 := bkb BK150 hb; replace BK156 := bkb BK156 hb; replace HB := bst hb; clear hb hbox hg; have hnb44 := NB156_149.out; have hnc44 := NB149_156.out; have hnb45 := NB156_150.out; have hnc45 := NB150_156.out; have hnb46 := NB156_157.out; have hnc46 := NB157_156.out; obtain ⟨hcz47_0, hcz47_1, hfz47_0, hfz47_1⟩ := bc2 BK156; have hnb48 := NB157_149.out; have hnc48 := NB149_157.out; have hnb49 := NB157_150.out; have hnc49 := NB150_157.out; obtain ⟨hcz50_0, hcz50_1, hfz50_0, hfz50_1⟩ := bc2 BK157))
    have n0_ : Aside0 (((((w43.setCell ⟨gb156, 0, none⟩ (.int .u32 t152)).setCell ⟨gb156, 1, none⟩ (.int .i64 t153)).setCell ⟨gb157, 0, none⟩ (.int .u32 t154)).setCell ⟨gb157, 1, none⟩ (.int .i64 t155)).heap[gb149]? = some (.cells #[.int .u32 a2_0, .int .i64 a2_1] 24 (0, 0))) := ⟨bkq BK149⟩
    have n1_ : Aside0 (((((w43.setCell ⟨gb156, 0, none⟩ (.int .u32 t152)).setCell ⟨gb156, 1, none⟩ (.int .i64 t153)).setCell ⟨gb157, 0, none⟩ (.int .u32 t154)).setCell ⟨gb157, 1, none⟩ (.int .i64 t155)).heap[gb150]? = some (.cells #[.int .u32 a3_0, .int .i64 a3_1] 24 (0, 0))) := ⟨bkq BK150⟩
    have n2_ : Aside0 (((((w43.setCell ⟨gb156, 0, none⟩ (.int .u32 t152)).setCell ⟨gb156, 1, none⟩ (.int .i64 t153)).setCell ⟨gb157, 0, none⟩ (.int .u32 t154)).setCell ⟨gb157, 1, none⟩ (.int .i64 t155)).heap[gb156]? = some (.cells #[.int .u32 t152, .int .i64 t153] 24 (0, 0))) := ⟨bkp BK156⟩
    have n3_ : Aside0 (((((w43.setCell ⟨gb156, 0, none⟩ (.int .u32 t152)).setCell ⟨gb156, 1, none⟩ (.int .i64 t153)).setCell ⟨gb157, 0, none⟩ (.int .u32 t154)).setCell ⟨gb157, 1, none⟩ (.int .i64 t155)).heap[gb157]? = some (.cells #[.int .u32 t154, .int .i64 t155] 24 (0, 0))) := ⟨bkp BK157⟩
    have n4_ : Aside0 (Below w.heap.size w ((((w43.setCell ⟨gb156, 0, none⟩ (.int .u32 t152)).setCell ⟨gb156, 1, none⟩ (.int .i64 t153)).setCell ⟨gb157, 0, none⟩ (.int .u32 t154)).setCell ⟨gb157, 1, none⟩ (.int .i64 t155))) := ⟨by repeat (first | (with_reducible first | exact HB.out | apply below_alloc | apply pw_below_drewN | apply below_drew1 | refine below_set ?_ GE149.out | refine below_set ?_ GE150.out | refine below_set ?_ GE156.out | refine below_set ?_ GE157.out) | exact HB.out)⟩
    (try clear BK149)
    (try clear BK150)
    (try clear BK156)
    (try clear BK157)
    (try clear HB)
    generalize ((((w43.setCell ⟨gb156, 0, none⟩ (.int .u32 t152)).setCell ⟨gb156, 1, none⟩ (.int .i64 t153)).setCell ⟨gb157, 0, none⟩ (.int .u32 t154)).setCell ⟨gb157, 1, none⟩ (.int .i64 t155)) = w51 at n0_ n1_ n2_ n3_ n4_ ⊢
    have BK149 := n0_
    have BK150 := n1_
    have BK156 := n2_
    have BK157 := n3_
    have HB := n4_
    clear n0_ n1_ n2_ n3_ n4_
    replace BK149 := Aside0.mk (blk_drew BK149.out)
    replace BK150 := Aside0.mk (blk_drew BK150.out)
    replace BK156 := Aside0.mk (blk_drew BK156.out)
    replace BK157 := Aside0.mk (blk_drew BK157.out)
    replace HB := Aside0.mk (below_drew1 HB.out)
    refine start_ (n := 24) (S := fun w' => w'.cell? ⟨gb156, 0, none⟩ = some (.int .u32 t152) ∧ w'.cell? ⟨gb156, 1, none⟩ = some (.int .i64 t153) ∧ w'.cell? ⟨gb157, 0, none⟩ = some (.int .u32 t154) ∧ w'.cell? ⟨gb157, 1, none⟩ = some (.int .i64 t155) ∧ w'.cell? ⟨gb149, 0, none⟩ = some (.int .u32 a2_0) ∧ w'.cell? ⟨gb149, 1, none⟩ = some (.int .i64 a2_1) ∧ w'.cell? ⟨gb150, 0, none⟩ = some (.int .u32 a3_0) ∧ w'.cell? ⟨gb150, 1, none⟩ = some (.int .i64 a3_1)) (ds := []) #[false, false, false, false, false, false, false, false, false, false, false, false, false, false, false, false, false, false, false, false, false, false, false, false] (by kernel_rfl) rfl rfl ⟨(blk_cell BK156.out 0).trans rfl, (blk_cell BK156.out 1).trans rfl, (blk_cell BK157.out 0).trans rfl, (blk_cell BK157.out 1).trans rfl, (blk_cell BK149.out 0).trans rfl, (blk_cell BK149.out 1).trans rfl, (blk_cell BK150.out 0).trans rfl, (blk_cell BK150.out 1).trans rfl⟩ (fun hHeld => ?_); refine with_tabW maquettelaw05_PrefixCovers.tab5 maquettelaw05_PrefixCovers.bits5 (fun HT_ HW_ => ?_)
    generalize w51.drew = w52 at BK149 BK150 BK156 BK157 HB hHeld ⊢
    refine pu HT_ 3 (some 21) (mk 24 8) ?_
    refine tk HT_ HW_ 0 (some 18) (mk 24 9) hHeld ?_
    refine tk HT_ HW_ 1 (some 19) (mk 24 11) hHeld ?_
    refine tk HT_ HW_ 4 (some 22) (mk 24 27) hHeld ?_
    refine tk HT_ HW_ 5 (some 23) (mk 24 59) hHeld ?_
    refine on HT_ 2 (some 20) (mk 24 63) fun K hK => ?_
    refine go1 Tryd.func24 #[.agg #[.int .u32 t152, .int .i64 t153], .agg #[.int .u32 t154, .int .i64 t155]] ?_
    with_reducible refine (prefix_Covers.calls t152 t153 t154 t155 t158 _ A9.out).mono ?_
    rintro e w53 ⟨rfl, hb⟩
    refine ⟨_, rfl, ?_⟩
    replace BK149 := bkb BK149 hb
    replace BK150 := bkb BK150 hb
    replace BK156 := bkb BK156 hb
    replace BK157 := bkb BK157 hb
    replace HB := bst hb
    (try clear hb)
    (try clear hb2)
    (try clear hk)
    (try clear hi)
    refine hK.out _ _ ⟨(blk_cell BK156.out 0).trans rfl, (blk_cell BK156.out 1).trans rfl, (blk_cell BK157.out 0).trans rfl, (blk_cell BK157.out 1).trans rfl, (blk_cell BK149.out 0).trans rfl, (blk_cell BK149.out 1).trans rfl, (blk_cell BK150.out 0).trans rfl, (blk_cell BK150.out 1).trans rfl⟩ (fun hHeld => ?_)
    clear hK K
    refine nm (some 20) ?_
    refine on HT_ 6 (some 24) (mk 24 127) fun K hK => ?_
    refine Go.Proofs.YtkbjjamaneiijaaDoor.Funcs.go1f Tryd.func22 #[.agg #[.int .u32 t152, .int .i64 t153], .agg #[.int .u32 t154, .int .i64 t155]] ?_
    with_reducible refine (maquettelaw05_PrefixCovers_1.calls k t152 t153 t154 t155 t159 _ A10.out).mono ?_
    rintro e w54 ⟨rfl, hb⟩
    refine ⟨_, rfl, ?_⟩
    replace BK149 := bkb BK149 hb
    replace BK150 := bkb BK150 hb
    replace BK156 := bkb BK156 hb
    replace BK157 := bkb BK157 hb
    replace HB := bst hb
    (try clear hb)
    (try clear hb2)
    (try clear hk)
    (try clear hi)
    refine hK.out _ _ ⟨(blk_cell BK156.out 0).trans rfl, (blk_cell BK156.out 1).trans rfl, (blk_cell BK157.out 0).trans rfl, (blk_cell BK157.out 1).trans rfl, (blk_cell BK149.out 0).trans rfl, (blk_cell BK149.out 1).trans rfl, (blk_cell BK150.out 0).trans rfl, (blk_cell BK150.out 1).trans rfl⟩ (fun hHeld => ?_)
    clear hK K
    refine nm (some 24) ?_
    refine pu HT_ 7 (some 25) (mk 24 255) ?_
    refine pu HT_ 8 (some 26) (mk 24 511) ?_
    refine pu HT_ 12 (some 30) (mk 24 4607) ?_
    refine tk HT_ HW_ 9 (some 27) (mk 24 5119) hHeld ?_
    refine tk HT_ HW_ 10 (some 28) (mk 24 6143) hHeld ?_
    refine tk HT_ HW_ 13 (some 31) (mk 24 14335) hHeld ?_
    refine tk HT_ HW_ 14 (some 32) (mk 24 30719) hHeld ?_
    refine on HT_ 11 (some 29) (mk 24 32767) fun K hK => ?_
    refine go1 Tryd.func24 #[.agg #[.int .u32 a2_0, .int .i64 a2_1], .agg #[.int .u32 a3_0, .int .i64 a3_1]] ?_
    with_reducible refine (prefix_Covers.calls a2_0 a2_1 a3_0 a3_1 t160 _ A12.out).mono ?_
    rintro e w55 ⟨rfl, hb⟩
    refine ⟨_, rfl, ?_⟩
    replace BK149 := bkb BK149 hb
    replace BK150 := bkb BK150 hb
    replace BK156 := bkb BK156 hb
    replace BK157 := bkb BK157 hb
    replace HB := bst hb
    (try clear hb)
    (try clear hb2)
    (try clear hk)
    (try clear hi)
    refine hK.out _ _ ⟨(blk_cell BK156.out 0).trans rfl, (blk_cell BK156.out 1).trans rfl, (blk_cell BK157.out 0).trans rfl, (blk_cell BK157.out 1).trans rfl, (blk_cell BK149.out 0).trans rfl, (blk_cell BK149.out 1).trans rfl, (blk_cell BK150.out 0).trans rfl, (blk_cell BK150.out 1).trans rfl⟩ (fun hHeld => ?_)
    clear hK K
    refine nm (some 29) ?_
    refine on HT_ 15 (some 33) (mk 24 65535) fun K hK => ?_
    refine Go.Proofs.YtkbjjamaneiijaaDoor.Funcs.go1f Tryd.func22 #[.agg #[.int .u32 a2_0, .int .i64 a2_1], .agg #[.int .u32 a3_0, .int .i64 a3_1]] ?_
    with_reducible refine (maquettelaw05_PrefixCovers_1.calls k a2_0 a2_1 a3_0 a3_1 t161 _ A13.out).mono ?_
    rintro e w56 ⟨rfl, hb⟩
    refine ⟨_, rfl, ?_⟩
    replace BK149 := bkb BK149 hb
    replace BK150 := bkb BK150 hb
    replace BK156 := bkb BK156 hb
    replace BK157 := bkb BK157 hb
    replace HB := bst hb
    (try clear hb)
    (try clear hb2)
    (try clear hk)
    (try clear hi)
    refine hK.out _ _ ⟨(blk_cell BK156.out 0).trans rfl, (blk_cell BK156.out 1).trans rfl, (blk_cell BK157.out 0).trans rfl, (blk_cell BK157.out 1).trans rfl, (blk_cell BK149.out 0).trans rfl, (blk_cell BK149.out 1).trans rfl, (blk_cell BK150.out 0).trans rfl, (blk_cell BK150.out 1).trans rfl⟩ (fun hHeld => ?_)
    clear hK K
    refine nm (some 33) ?_
    refine pu HT_ 16 (some 34) (mk 24 131071) ?_
    refine pu HT_ 17 (some 35) (mk 24 262143) ?_
    refine pu HT_ 18 (some 36) (mk 24 524287) ?_
    refine pun HT_ 19 (some 37) (mk 24 1048575) ?_
    refine pun HT_ 20 (some 38) (mk 24 2097151) ?_
    refine pun HT_ 21 (some 39) (mk 24 4194303) ?_
    refine pu HT_ 22 (some 40) (mk 24 8388607) ?_
    refine pu HT_ 23 (some 8) (mk 24 16777215) ?_
    refine done_ (done_of HT_.out (by kernel_rfl)) ?_
    try go_wp2
    go_ret
    exact ⟨by first | rfl | (simp [errW_none, errW_some] <;> rfl) | (simp [*, errW_none, errW_some] <;> rfl), by repeat (first | (with_reducible first | exact HB.out | apply below_alloc | apply pw_below_drewN | apply below_drew1 | refine below_set ?_ GE149.out | refine below_set ?_ GE150.out | refine below_set ?_ GE156.out | refine below_set ?_ GE157.out) | exact HB.out)⟩
  ·rw [if_neg c11] at H
   have c11b0 : (t158 == t159) = false := by simpa using c11
   (try (have c11b1 : decide (t158 = t159) = false := by simpa using c11))
   (try (have c11b2 : (t158 == t159) = false := by simpa using c11))
   (try (have c11b3 : ¬ (t158 = t159) := by simpa using c11))
   clear c11
   obtain rfl := Option.some.inj H
   go_enter Tryd.func5, Tryd.ntmps5
   try go_wp2_with (first | ((with_reducible refine gate_dst (N := 6) rfl ?_); refine bx 6 (cs := #[.int .u32 a2_0, .int .i64 a2_1]) (t := 24) (h := ?_); intro gb149 hg w57 hbox hb; have BK149 := Aside0.mk hbox; have GW149 : Aside0 (w.heap.size ≤ gb149) := bge hg; have GE149 : Aside0 (w.heap.size ≤ gb149) := bge hg; replace HB := bst hb; clear hb hbox hg) | ((with_reducible refine gate_dst (N := 7) rfl ?_); refine bx 7 (cs := #[.int .u32 a3_0, .int .i64 a3_1]) (t := 24) (h := ?_); intro gb150 hg w58 hbox hb; have BK150 := Aside0.mk hbox; have GW150 : Aside0 (w.heap.size ≤ gb150) := bge hg; have GE150 : Aside0 (w.heap.size ≤ gb150) := bge hg; have NB149_150 := bne BK149 hg; have NB150_149 := bnf BK149 hg; replace BK149 := bkb BK149 hb; replace HB := bst hb; clear hb hbox hg) | ((with_reducible refine gate_dst (N := 12) rfl ?_); refine gl (some 12) Tryd.func15 #[] ?_; (with_reducible refine (maquettelaw05_awake.calls k  true _ A5.out (by with_reducible first | exact hInv | exact Go.Proofs.YtkbjjamaneiijaaDoor.Inv.Inv.below hInv HB.out | exact Go.Proofs.YtkbjjamaneiijaaDoor.Inv.Inv.below hInv bel | (repeat (first | exact hInv | exact Go.Proofs.YtkbjjamaneiijaaDoor.Inv.Inv.below hInv HB.out | exact Go.Proofs.YtkbjjamaneiijaaDoor.Inv.Inv.below hInv bel | apply Go.Proofs.YtkbjjamaneiijaaDoor.Inv.Inv.alloc | apply Go.Proofs.YtkbjjamaneiijaaDoor.Inv.Inv.drewN | apply Go.Proofs.YtkbjjamaneiijaaDoor.Inv.Inv.drew)))).mono ?_); rintro e w59 ⟨rfl, hb⟩; refine ⟨_, rfl, ?_⟩; replace BK149 := bkb BK149 hb; replace BK150 := bkb BK150 hb; replace HB := bst hb; (try clear hb); (try clear hb2); (try clear hk); (try clear hi)) | ((with_reducible refine gate_dst (N := 15) rfl ?_); refine gl (some 15) Tryd.func19 #[.int .u8 a0] ?_; (with_reducible refine (maquettelaw05_Make.calls k a0 t152 t153 _ A7.out).mono ?_); rintro e w60 ⟨rfl, hb⟩; refine ⟨_, rfl, ?_⟩; replace BK149 := bkb BK149 hb; replace BK150 := bkb BK150 hb; replace HB := bst hb; (try clear hb); (try clear hb2); (try clear hk); (try clear hi)) | ((with_reducible refine gate_dst (N := 17) rfl ?_); refine gl (some 17) Tryd.func19 #[.int .u8 a1] ?_; (with_reducible refine (maquettelaw05_Make.calls k a1 t154 t155 _ A8.out).mono ?_); rintro e w61 ⟨rfl, hb⟩; refine ⟨_, rfl, ?_⟩; replace BK149 := bkb BK149 hb; replace BK150 := bkb BK150 hb; replace HB := bst hb; (try clear hb); (try clear hb2); (try clear hk); (try clear hi)) | ((with_reducible refine gate_dst (N := 10) rfl ?_); refine bx 10 (cs := #[.int .u32 0, .int .i64 0]) (t := 24) (h := ?_); intro gb156 hg w62 hbox hb; have BK156 := Aside0.mk hbox; have GW156 : Aside0 (w.heap.size ≤ gb156) := bge hg; have GE156 : Aside0 (w.heap.size ≤ gb156) := bge hg; have NB149_156 := bne BK149 hg; have NB156_149 := bnf BK149 hg; have NB150_156 := bne BK150 hg; have NB156_150 := bnf BK150 hg; replace BK149 := bkb BK149 hb; replace BK150 := bkb BK150 hb; replace HB := bst hb; clear hb hbox hg) | ((with_reducible refine gate_dst (N := 11) rfl ?_); refine bx 11 (cs := #[.int .u32 0, .int .i64 0]) (t := 24) (h := ?_); intro gb157 hg w63 hbox hb; have BK157 := Aside0.mk hbox; have GW157 : Aside0 (w.heap.size ≤ gb157) := bge hg; have GE157 : Aside0 (w.heap.size ≤ gb157) := bge hg; have NB149_157 := bne BK149 hg; have NB157_149 := bnf BK149 hg; have NB150_157 := bne BK150 hg; have NB157_150 := bnf BK150 hg; have NB156_157 := bne BK156 hg; have NB157_156 := bnf BK156 hg; replace BK149 := bkb BK149 hb; replace BK150 := bkb BK150 hb; replace BK156 := bkb BK156 hb; replace HB := bst hb; clear hb hbox hg; have hnb64 := NB156_149.out; have hnc64 := NB149_156.out; have hnb65 := NB156_150.out; have hnc65 := NB150_156.out; have hnb66 := NB156_157.out; have hnc66 := NB157_156.out; obtain ⟨hcz67_0, hcz67_1, hfz67_0, hfz67_1⟩ := bc2 BK156; have hnb68 := NB157_149.out; have hnc68 := NB149_157.out; have hnb69 := NB157_150.out; have hnc69 := NB150_157.out; obtain ⟨hcz70_0, hcz70_1, hfz70_0, hfz70_1⟩ := bc2 BK157))
   have n0_ : Aside0 (((((w63.setCell ⟨gb156, 0, none⟩ (.int .u32 t152)).setCell ⟨gb156, 1, none⟩ (.int .i64 t153)).setCell ⟨gb157, 0, none⟩ (.int .u32 t154)).setCell ⟨gb157, 1, none⟩ (.int .i64 t155)).heap[gb149]? = some (.cells #[.int .u32 a2_0, .int .i64 a2_1] 24 (0, 0))) := ⟨bkq BK149⟩
   have n1_ : Aside0 (((((w63.setCell ⟨gb156, 0, none⟩ (.int .u32 t152)).setCell ⟨gb156, 1, none⟩ (.int .i64 t153)).setCell ⟨gb157, 0, none⟩ (.int .u32 t154)).setCell ⟨gb157, 1, none⟩ (.int .i64 t155)).heap[gb150]? = some (.cells #[.int .u32 a3_0, .int .i64 a3_1] 24 (0, 0))) := ⟨bkq BK150⟩
   have n2_ : Aside0 (((((w63.setCell ⟨gb156, 0, none⟩ (.int .u32 t152)).setCell ⟨gb156, 1, none⟩ (.int .i64 t153)).setCell ⟨gb157, 0, none⟩ (.int .u32 t154)).setCell ⟨gb157, 1, none⟩ (.int .i64 t155)).heap[gb156]? = some (.cells #[.int .u32 t152, .int .i64 t153] 24 (0, 0))) := ⟨bkp BK156⟩
   have n3_ : Aside0 (((((w63.setCell ⟨gb156, 0, none⟩ (.int .u32 t152)).setCell ⟨gb156, 1, none⟩ (.int .i64 t153)).setCell ⟨gb157, 0, none⟩ (.int .u32 t154)).setCell ⟨gb157, 1, none⟩ (.int .i64 t155)).heap[gb157]? = some (.cells #[.int .u32 t154, .int .i64 t155] 24 (0, 0))) := ⟨bkp BK157⟩
   have n4_ : Aside0 (Below w.heap.size w ((((w63.setCell ⟨gb156, 0, none⟩ (.int .u32 t152)).setCell ⟨gb156, 1, none⟩ (.int .i64 t153)).setCell ⟨gb157, 0, none⟩ (.int .u32 t154)).setCell ⟨gb157, 1, none⟩ (.int .i64 t155))) := ⟨by repeat (first | (with_reducible first | exact HB.out | apply below_alloc | apply pw_below_drewN | apply below_drew1 | refine below_set ?_ GE149.out | refine below_set ?_ GE150.out | refine below_set ?_ GE156.out | refine below_set ?_ GE157.out) | exact HB.out)⟩
   (try clear BK149)
   (try clear BK150)
   (try clear BK156)
   (try clear BK157)
   (try clear HB)
   generalize ((((w63.setCell ⟨gb156, 0, none⟩ (.int .u32 t152)).setCell ⟨gb156, 1, none⟩ (.int .i64 t153)).setCell ⟨gb157, 0, none⟩ (.int .u32 t154)).setCell ⟨gb157, 1, none⟩ (.int .i64 t155)) = w71 at n0_ n1_ n2_ n3_ n4_ ⊢
   have BK149 := n0_
   have BK150 := n1_
   have BK156 := n2_
   have BK157 := n3_
   have HB := n4_
   clear n0_ n1_ n2_ n3_ n4_
   replace BK149 := Aside0.mk (blk_drew BK149.out)
   replace BK150 := Aside0.mk (blk_drew BK150.out)
   replace BK156 := Aside0.mk (blk_drew BK156.out)
   replace BK157 := Aside0.mk (blk_drew BK157.out)
   replace HB := Aside0.mk (below_drew1 HB.out)
   refine start_ (n := 24) (S := fun w' => w'.cell? ⟨gb156, 0, none⟩ = some (.int .u32 t152) ∧ w'.cell? ⟨gb156, 1, none⟩ = some (.int .i64 t153) ∧ w'.cell? ⟨gb157, 0, none⟩ = some (.int .u32 t154) ∧ w'.cell? ⟨gb157, 1, none⟩ = some (.int .i64 t155)) (ds := []) #[false, false, false, false, false, false, false, false, false, false, false, false, false, false, false, false, false, false, false, false, false, false, false, false] (by kernel_rfl) rfl rfl ⟨(blk_cell BK156.out 0).trans rfl, (blk_cell BK156.out 1).trans rfl, (blk_cell BK157.out 0).trans rfl, (blk_cell BK157.out 1).trans rfl⟩ (fun hHeld => ?_); refine with_tabW maquettelaw05_PrefixCovers.tab5 maquettelaw05_PrefixCovers.bits5 (fun HT_ HW_ => ?_)
   generalize w71.drew = w72 at BK149 BK150 BK156 BK157 HB hHeld ⊢
   refine pu HT_ 3 (some 21) (mk 24 8) ?_
   refine tk HT_ HW_ 0 (some 18) (mk 24 9) hHeld ?_
   refine tk HT_ HW_ 1 (some 19) (mk 24 11) hHeld ?_
   refine tk HT_ HW_ 4 (some 22) (mk 24 27) hHeld ?_
   refine tk HT_ HW_ 5 (some 23) (mk 24 59) hHeld ?_
   refine on HT_ 2 (some 20) (mk 24 63) fun K hK => ?_
   refine go1 Tryd.func24 #[.agg #[.int .u32 t152, .int .i64 t153], .agg #[.int .u32 t154, .int .i64 t155]] ?_
   with_reducible refine (prefix_Covers.calls t152 t153 t154 t155 t158 _ A9.out).mono ?_
   rintro e w73 ⟨rfl, hb⟩
   refine ⟨_, rfl, ?_⟩
   replace BK149 := bkb BK149 hb
   replace BK150 := bkb BK150 hb
   replace BK156 := bkb BK156 hb
   replace BK157 := bkb BK157 hb
   replace HB := bst hb
   (try clear hb)
   (try clear hb2)
   (try clear hk)
   (try clear hi)
   refine hK.out _ _ ⟨(blk_cell BK156.out 0).trans rfl, (blk_cell BK156.out 1).trans rfl, (blk_cell BK157.out 0).trans rfl, (blk_cell BK157.out 1).trans rfl⟩ (fun hHeld => ?_)
   clear hK K
   refine nm (some 20) ?_
   refine on HT_ 6 (some 24) (mk 24 127) fun K hK => ?_
   refine Go.Proofs.YtkbjjamaneiijaaDoor.Funcs.go1f Tryd.func22 #[.agg #[.int .u32 t152, .int .i64 t153], .agg #[.int .u32 t154, .int .i64 t155]] ?_
   with_reducible refine (maquettelaw05_PrefixCovers_1.calls k t152 t153 t154 t155 t159 _ A10.out).mono ?_
   rintro e w74 ⟨rfl, hb⟩
   refine ⟨_, rfl, ?_⟩
   replace BK149 := bkb BK149 hb
   replace BK150 := bkb BK150 hb
   replace BK156 := bkb BK156 hb
   replace BK157 := bkb BK157 hb
   replace HB := bst hb
   (try clear hb)
   (try clear hb2)
   (try clear hk)
   (try clear hi)
   refine hK.out _ _ ⟨(blk_cell BK156.out 0).trans rfl, (blk_cell BK156.out 1).trans rfl, (blk_cell BK157.out 0).trans rfl, (blk_cell BK157.out 1).trans rfl⟩ (fun hHeld => ?_)
   clear hK K
   refine nm (some 24) ?_
   refine pu HT_ 7 (some 25) (mk 24 255) ?_
   refine pu HT_ 8 (some 26) (mk 24 511) ?_
   refine pun HT_ 9 (some 27) (mk 24 1023) ?_
   refine pun HT_ 10 (some 28) (mk 24 2047) ?_
   refine pun HT_ 11 (some 29) (mk 24 4095) ?_
   refine pun HT_ 12 (some 30) (mk 24 8191) ?_
   refine pun HT_ 13 (some 31) (mk 24 16383) ?_
   refine pun HT_ 14 (some 32) (mk 24 32767) ?_
   refine pun HT_ 15 (some 33) (mk 24 65535) ?_
   refine pun HT_ 16 (some 34) (mk 24 131071) ?_
   refine pu HT_ 17 (some 35) (mk 24 262143) ?_
   refine pu HT_ 18 (some 36) (mk 24 524287) ?_
   refine pun HT_ 19 (some 37) (mk 24 1048575) ?_
   refine pun HT_ 20 (some 38) (mk 24 2097151) ?_
   refine pun HT_ 21 (some 39) (mk 24 4194303) ?_
   refine pu HT_ 22 (some 40) (mk 24 8388607) ?_
   refine pu HT_ 23 (some 8) (mk 24 16777215) ?_
   refine done_ (done_of HT_.out (by kernel_rfl)) ?_
   try go_wp2
   go_ret
   exact ⟨by first | rfl | (simp [errW_none, errW_some] <;> rfl) | (simp [*, errW_none, errW_some] <;> rfl), by repeat (first | (with_reducible first | exact HB.out | apply below_alloc | apply pw_below_drewN | apply below_drew1 | refine below_set ?_ GE149.out | refine below_set ?_ GE150.out | refine below_set ?_ GE156.out | refine below_set ?_ GE157.out) | exact HB.out)⟩
 ·replace c6 := Bool.eq_false_iff.mpr c6
  subst c6
  have H1 : (some false) = some r := by rw [if_neg (show ¬ (false = true) by decide)] at H; exact H
  clear H
  have H := H1
  clear H1
  obtain rfl := Option.some.inj H
  go_enter Tryd.func5, Tryd.ntmps5
  go_wp2_with (first | ((with_reducible refine gate_dst (N := 6) rfl ?_); refine bx 6 (cs := #[.int .u32 a2_0, .int .i64 a2_1]) (t := 24) (h := ?_); intro gb149 hg w75 hbox hb; have BK149 := Aside0.mk hbox; have GW149 : Aside0 (w.heap.size ≤ gb149) := bge hg; have GE149 : Aside0 (w.heap.size ≤ gb149) := bge hg; replace HB := bst hb; clear hb hbox hg) | ((with_reducible refine gate_dst (N := 7) rfl ?_); refine bx 7 (cs := #[.int .u32 a3_0, .int .i64 a3_1]) (t := 24) (h := ?_); intro gb150 hg w76 hbox hb; have BK150 := Aside0.mk hbox; have GW150 : Aside0 (w.heap.size ≤ gb150) := bge hg; have GE150 : Aside0 (w.heap.size ≤ gb150) := bge hg; have NB149_150 := bne BK149 hg; have NB150_149 := bnf BK149 hg; replace BK149 := bkb BK149 hb; replace HB := bst hb; clear hb hbox hg) | ((with_reducible refine gate_dst (N := 12) rfl ?_); refine gl (some 12) Tryd.func15 #[] ?_; (with_reducible refine (maquettelaw05_awake.calls k  false _ A5.out (by with_reducible first | exact hInv | exact Go.Proofs.YtkbjjamaneiijaaDoor.Inv.Inv.below hInv HB.out | exact Go.Proofs.YtkbjjamaneiijaaDoor.Inv.Inv.below hInv bel | (repeat (first | exact hInv | exact Go.Proofs.YtkbjjamaneiijaaDoor.Inv.Inv.below hInv HB.out | exact Go.Proofs.YtkbjjamaneiijaaDoor.Inv.Inv.below hInv bel | apply Go.Proofs.YtkbjjamaneiijaaDoor.Inv.Inv.alloc | apply Go.Proofs.YtkbjjamaneiijaaDoor.Inv.Inv.drewN | apply Go.Proofs.YtkbjjamaneiijaaDoor.Inv.Inv.drew)))).mono ?_); rintro e w77 ⟨rfl, hb⟩; refine ⟨_, rfl, ?_⟩; replace BK149 := bkb BK149 hb; replace BK150 := bkb BK150 hb; replace HB := bst hb; (try clear hb); (try clear hb2); (try clear hk); (try clear hi)))
  go_ret
  exact ⟨by first | rfl | (simp [errW_none, errW_some] <;> rfl) | (simp [*, errW_none, errW_some] <;> rfl), by repeat (first | (with_reducible first | exact HB.out | apply below_alloc | apply pw_below_drewN | apply below_drew1 | refine below_set ?_ GE149.out | refine below_set ?_ GE150.out) | exact HB.out)⟩

end Go.Proofs.YtkbjjamaneiijaaDoor.PCov
