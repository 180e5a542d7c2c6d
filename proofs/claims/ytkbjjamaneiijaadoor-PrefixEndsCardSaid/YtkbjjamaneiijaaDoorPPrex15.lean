-- Written by wip/xprint.py of this work: the printer of the kit, with contracts of this work beside it, shortened.
import Derived.Test.YtkbjjamaneiijaaDoorShort
import Derived.Test.YtkbjjamaneiijaaDoorPPrex0
import Derived.Test.YtkbjjamaneiijaaDoorPPrex1
import Derived.Test.YtkbjjamaneiijaaDoorPPrex3
import Derived.Test.YtkbjjamaneiijaaDoorPPrex11
import Derived.Test.YtkbjjamaneiijaaDoorPPrex14
namespace Go.Proofs.YtkbjjamaneiijaaDoor.PPre
open Go.RowKit Go.Proofs.YtkbjjamaneiijaaDoor.Short Go.Proofs.YtkbjjamaneiijaaDoorW.PrintWords Go.Proofs.YtkbjjamaneiijaaDoorW.PrintLast Go.Proofs.YtkbjjamaneiijaaDoorW.PrintMore
attribute [local go_sem] max2_int min2_int max_two min_two max_three min_three max_four min_four   -- for this text's walks alone
set_option linter.unusedVariables false
set_option linter.unusedSimpArgs false

attribute [local go_sem high] eqA24
/-! ### maquettelaw05_PrefixEnds: function 7 -/
def maquettelaw05_PrefixEnds.j0 : Nat → Bool → Int → Int → Int → Int → Int → Int → Option (Bool)
 | 0, _, _, _, _, _, _, _ => none
 | k + 1, x19, x142000, x142001, x144000, x144001, x145000, x145001 => if x19 = true then (some false) else ((prefix_Covers.f x144000 x144001 x142000 x142001).bind fun t147 => (if (t147 == (x142000 == x144000 && (x142001 == x144001))) = true then ((prefix_Covers.f x145000 x145001 x142000 x142001).bind fun t148 => ((prefix_May.f x142000 x142001).bind fun t149 => (if (t148 == t149) = true then ((prefix_Covers.f x142000 x142001 x142000 x142001).bind fun t150 => ((prefix_May.f x142000 x142001).bind fun t151 => (some (t150 == t151)))) else (some false)))) else (some false)))
def maquettelaw05_PrefixEnds.f (k : Nat) (a0_0 : Int) (a0_1 : Int) (a1 : Int) : Option (Bool) := (maquettelaw05_awake.f k).bind fun t142 => (if t142 = true then ((prefix_May.f a1 32).bind fun t145 => (if t145 = true then ((prefix_May.f 0 0).bind fun t146 => (maquettelaw05_PrefixEnds.j0 k (!t146) a0_0 a0_1 a1 32 0 0)) else (maquettelaw05_PrefixEnds.j0 k true a0_0 a0_1 a1 32 0 0))) else (some false))
theorem maquettelaw05_PrefixEnds.mono_l : ∀ k, (∀ y0 y1 y2 y3 y4 y5 y6, LeO (maquettelaw05_PrefixEnds.j0 k y0 y1 y2 y3 y4 y5 y6) (maquettelaw05_PrefixEnds.j0 (k + 1) y0 y1 y2 y3 y4 y5 y6))
 | 0 => fun _ _ _ _ _ _ _ r h => by simp [maquettelaw05_PrefixEnds.j0] at h
 | k + 1 => by
  have ih0 := maquettelaw05_PrefixEnds.mono_l k
  ·intro y0 y1 y2 y3 y4 y5 y6
   unfold maquettelaw05_PrefixEnds.j0
   repeat' first
   | (with_reducible exact ih0 _ _ _ _ _ _ _)
   | (with_reducible exact maquettelaw05_awake.mono _)
   | (with_reducible exact LeO.refl _)
   | (with_reducible exact LeO.none _)
   | (with_reducible refine LeO.ite ?_ ?_)
   | (with_reducible refine LeO.bind ?_ (fun _ => ?_))
   | exact ih0 _ _ _ _ _ _ _
   | exact maquettelaw05_awake.mono _
   | exact LeO.none _
   | refine LeO.ite ?_ ?_
   | refine LeO.bind ?_ (fun _ => ?_)
theorem maquettelaw05_PrefixEnds.mono : ∀ a0 a1 a2 k, LeO (maquettelaw05_PrefixEnds.f k a0 a1 a2) (maquettelaw05_PrefixEnds.f (k + 1) a0 a1 a2) := by
 intro a0 a1 a2 k
 have ih0 := maquettelaw05_PrefixEnds.mono_l k
 unfold maquettelaw05_PrefixEnds.f
 repeat' first
   | (with_reducible exact ih0 _ _ _ _ _ _ _)
   | (with_reducible exact maquettelaw05_awake.mono _)
   | (with_reducible exact LeO.refl _)
   | (with_reducible exact LeO.none _)
   | (with_reducible refine LeO.ite ?_ ?_)
   | (with_reducible refine LeO.bind ?_ (fun _ => ?_))
   | exact ih0 _ _ _ _ _ _ _
   | exact maquettelaw05_awake.mono _
   | exact LeO.none _
   | refine LeO.ite ?_ ?_
   | refine LeO.bind ?_ (fun _ => ?_)
def maquettelaw05_PrefixEnds.T6 : Bool × List (List Nat × List Nat) := (true, [([], []), ([], []), ([0, 1], [0, 1]), ([], []), ([], []), ([3, 4], [3, 4]), ([2, 5], [2, 5]), ([6, 2], [6]), ([7], [7]), ([7], [7]), ([8, 9, 7, 7], [7, 8, 9]), ([7], [7]), ([11, 10, 7], [7, 11]), ([10, 12, 7], [7, 10, 12]), ([7, 13], [7, 13]), ([14, 12], [14]), ([15], [15]), ([15], [15]), ([16, 17, 15, 15], [15, 16, 17]), ([15], [15]), ([19, 18, 15], [15, 19]), ([18, 20, 15], [15, 18, 20]), ([15, 21], [15, 21]), ([22, 20, 0, 1, 2, 3, 4, 5, 6, 7, 8, 9, 10, 11, 12, 13, 14, 15, 16, 17, 18, 19, 20, 21, 22], [22])])
def maquettelaw05_PrefixEnds.B6 : List Nat := [0, 0, 3, 0, 0, 24, 63, 127, 255, 255, 1023, 255, 4095, 8191, 16383, 32767, 65535, 65535, 262143, 65535, 1048575, 2097151, 4194303, 8388607]
theorem maquettelaw05_PrefixEnds.tab6 : rtab .any (opsOf Tryd.f7 6) = maquettelaw05_PrefixEnds.T6 := by kernel_rfl
theorem maquettelaw05_PrefixEnds.bits6 : waitsOk maquettelaw05_PrefixEnds.T6.2 maquettelaw05_PrefixEnds.B6 = true := by kernel_rfl
set_option maxHeartbeats 8000000 in
set_option maxRecDepth 100000 in
theorem maquettelaw05_PrefixEnds.calls (k : Nat) (a0_0 : Int) (a0_1 : Int) (a1 : Int) (r : Bool) (w : World) (h : maquettelaw05_PrefixEnds.f k a0_0 a0_1 a1 = some r) (hInv : Go.Proofs.YtkbjjamaneiijaaDoor.Inv.Inv w) :
  Calls Tryd.prog 7 #[.agg #[.int .u32 a0_0, .int .i64 a0_1], .int .u32 a1] w fun e w' => e = .returned (.bool r) ∧ Below w.heap.size w w' := by
 have hu24 := Tryd.underlying24
 have HB := Aside0.mk (Below.refl w.heap.size w)
 have H : ((maquettelaw05_awake.f k).bind fun t142 => (if t142 = true then ((prefix_May.f a1 32).bind fun t145 => (if t145 = true then ((prefix_May.f 0 0).bind fun t146 => (maquettelaw05_PrefixEnds.j0 k (!t146) a0_0 a0_1 a1 32 0 0)) else (maquettelaw05_PrefixEnds.j0 k true a0_0 a0_1 a1 32 0 0))) else (some false))) = some r := h
 clear h
 replace H := Option.bind_eq_some_iff.mp H
 obtain ⟨t142, A30, H⟩ := H
 replace H : (if t142 = true then ((prefix_May.f a1 32).bind fun t145 => (if t145 = true then ((prefix_May.f 0 0).bind fun t146 => (maquettelaw05_PrefixEnds.j0 k (!t146) a0_0 a0_1 a1 32 0 0)) else (maquettelaw05_PrefixEnds.j0 k true a0_0 a0_1 a1 32 0 0))) else (some false)) = some r := H
 have A3 := Aside0.mk A30
 clear A30
 by_cases c4 : t142 = true
 ·subst c4
  have H1 : ((prefix_May.f a1 32).bind fun t145 => (if t145 = true then ((prefix_May.f 0 0).bind fun t146 => (maquettelaw05_PrefixEnds.j0 k (!t146) a0_0 a0_1 a1 32 0 0)) else (maquettelaw05_PrefixEnds.j0 k true a0_0 a0_1 a1 32 0 0))) = some r := by rw [if_pos rfl] at H; exact H
  clear H
  have H := H1
  clear H1
  have HC5 := Aside0.mk H
  clear H
  go_enter Tryd.func7, Tryd.ntmps7
  go_upto_region 4 with (first | ((with_reducible refine gate_dst (N := 2) rfl ?_); refine bx 2 (cs := #[.int .u32 a0_0, .int .i64 a0_1]) (t := 24) (h := ?_); intro gb141 hg w6 hbox hb; have BK141 := Aside0.mk hbox; have GW141 : Aside0 (w.heap.size ≤ gb141) := bge hg; have GE141 : Aside0 (w.heap.size ≤ gb141) := bge hg; replace HB := bst hb; clear hb hbox hg) | ((with_reducible refine gate_dst (N := 7) rfl ?_); refine gl (some 7) Tryd.func15 #[] ?_; (with_reducible refine (maquettelaw05_awake.calls k  true _ A3.out (by with_reducible first | exact hInv | exact Go.Proofs.YtkbjjamaneiijaaDoor.Inv.Inv.below hInv HB.out | exact Go.Proofs.YtkbjjamaneiijaaDoor.Inv.Inv.below hInv bel | (repeat (first | exact hInv | exact Go.Proofs.YtkbjjamaneiijaaDoor.Inv.Inv.below hInv HB.out | exact Go.Proofs.YtkbjjamaneiijaaDoor.Inv.Inv.below hInv bel | apply Go.Proofs.YtkbjjamaneiijaaDoor.Inv.Inv.alloc | apply Go.Proofs.YtkbjjamaneiijaaDoor.Inv.Inv.drewN | apply Go.Proofs.YtkbjjamaneiijaaDoor.Inv.Inv.drew)))).mono ?_); rintro e w7 ⟨rfl, hb⟩; refine ⟨_, rfl, ?_⟩; replace BK141 := bkb BK141 hb; replace HB := bst hb; (try clear hb); (try clear hb2); (try clear hk); (try clear hi)) | ((with_reducible refine gate_dst (N := 5) rfl ?_); refine bx 5 (cs := #[.int .u32 0, .int .i64 0]) (t := 24) (h := ?_); intro gb143 hg w8 hbox hb; have BK143 := Aside0.mk hbox; have GW143 : Aside0 (w.heap.size ≤ gb143) := bge hg; have GE143 : Aside0 (w.heap.size ≤ gb143) := bge hg; have NB141_143 := bne BK141 hg; have NB143_141 := bnf BK141 hg; replace BK141 := bkb BK141 hb; replace HB := bst hb; clear hb hbox hg) | ((with_reducible refine gate_dst (N := 6) rfl ?_); refine bx 6 (cs := #[.int .u32 0, .int .i64 0]) (t := 24) (h := ?_); intro gb144 hg w9 hbox hb; have BK144 := Aside0.mk hbox; have GW144 : Aside0 (w.heap.size ≤ gb144) := bge hg; have GE144 : Aside0 (w.heap.size ≤ gb144) := bge hg; have NB141_144 := bne BK141 hg; have NB144_141 := bnf BK141 hg; have NB143_144 := bne BK143 hg; have NB144_143 := bnf BK143 hg; replace BK141 := bkb BK141 hb; replace BK143 := bkb BK143 hb; replace HB := bst hb; clear hb hbox hg; have hnb10 := NB143_141.out; have hnc10 := NB141_143.out; have hnb11 := NB143_144.out; have hnc11 := NB144_143.out; obtain ⟨hcz12_0, hcz12_1, hfz12_0, hfz12_1⟩ := bc2 BK143; have hnb13 := NB144_141.out; have hnc13 := NB141_144.out; obtain ⟨hcz14_0, hcz14_1, hfz14_0, hfz14_1⟩ := bc2 BK144))
  (try simp only [Act.put, List.setIfInBounds_toArray, List.set_cons_zero, List.set_cons_succ])
  go_cut [19] (fun v19 wc => ∃ (kq : Nat) (x19_4 : Bool), v19 = .bool x19_4 ∧ Aside0 (maquettelaw05_PrefixEnds.j0 kq x19_4 a0_0 a0_1 a1 32 0 0 = some r) ∧ Aside0 (kq ≤ k) ∧ Aside0 (wc.heap[gb141]? = some (.cells #[.int .u32 a0_0, .int .i64 a0_1] 24 (0, 0))) ∧ Aside0 (wc.heap[gb143]? = some (.cells #[.int .u32 a1, .int .i64 32] 24 (0, 0))) ∧ Aside0 (wc.heap[gb144]? = some (.cells #[.int .u32 0, .int .i64 0] 24 (0, 0))) ∧ Aside0 (Below w.heap.size w wc))
  case first =>
   have H := HC5.out
   clear HC5
   replace H := Option.bind_eq_some_iff.mp H
   obtain ⟨t145, A150, H⟩ := H
   replace H : (if t145 = true then ((prefix_May.f 0 0).bind fun t146 => (maquettelaw05_PrefixEnds.j0 k (!t146) a0_0 a0_1 a1 32 0 0)) else (maquettelaw05_PrefixEnds.j0 k true a0_0 a0_1 a1 32 0 0)) = some r := H
   have A15 := Aside0.mk A150
   clear A150
   by_cases c16 : t145 = true
   ·subst c16
    have H1 : ((prefix_May.f 0 0).bind fun t146 => (maquettelaw05_PrefixEnds.j0 k (!t146) a0_0 a0_1 a1 32 0 0)) = some r := by rw [if_pos rfl] at H; exact H
    clear H
    have H := H1
    clear H1
    replace H := Option.bind_eq_some_iff.mp H
    obtain ⟨t146, A170, H⟩ := H
    replace H : (maquettelaw05_PrefixEnds.j0 k (!t146) a0_0 a0_1 a1 32 0 0) = some r := H
    have A17 := Aside0.mk A170
    clear A170
    have H' := Aside0.mk H
    clear H
    have hnb18 := NB143_141.out
    have hnc18 := NB141_143.out
    have hnb19 := NB143_144.out
    have hnc19 := NB144_143.out
    obtain ⟨hcz20_0, hcz20_1, hfz20_0, hfz20_1⟩ := bc2 BK143
    go_wp2_with (first | ((with_reducible refine gate_dst (N := 13) rfl ?_); refine gl (some 13) Tryd.func16 #[.agg #[.int .u32 a1, .int .i64 32]] ?_; (with_reducible refine (prefix_May.calls a1 32 true _ A15.out).mono ?_); rintro e w21 ⟨rfl, hb⟩; refine ⟨_, rfl, ?_⟩; replace BK141 := bkb BK141 hb; replace BK143 := Aside0.mk (blk_below (g := gb143) (o := .cells #[.int .u32 a1, .int .i64 32] 24 (0, 0)) (bkp BK143) hb); replace BK144 := Aside0.mk (blk_below (g := gb144) (o := .cells #[.int .u32 0, .int .i64 0] 24 (0, 0)) (bkp BK144) hb); replace HB := bst hb; (try clear hb); (try clear hb2); (try clear hk); (try clear hi); have hnb22 := NB144_141.out; have hnc22 := NB141_144.out; obtain ⟨hcz23_0, hcz23_1, hfz23_0, hfz23_1⟩ := bc2 BK144) | (go_at_call 16; (with_reducible refine (prefix_May.calls 0 0 t146 _ A17.out).mono ?_); rintro e w24 ⟨rfl, hb⟩; replace BK141 := bkb BK141 hb; replace BK143 := bkb BK143 hb; replace BK144 := bkb BK144 hb; replace HB := bst hb; (try clear hb); (try clear hb2); (try clear hk); (try clear hi)))
    go_meet
    case rel => exact ⟨_, (!t146), (by first | rfl | (simp; done) | (simp [*]; done)), H', ⟨by first | omega | exact Nat.le_refl _⟩, ⟨bkq BK141⟩, ⟨bkq BK143⟩, ⟨bkq BK144⟩, ⟨by repeat (first | (with_reducible first | exact HB.out | apply below_alloc | apply pw_below_drewN | apply below_drew1 | refine below_set ?_ GE141.out | refine below_set ?_ GE143.out | refine below_set ?_ GE144.out) | exact HB.out)⟩⟩
   ·replace c16 := Bool.eq_false_iff.mpr c16
    subst c16
    have H1 : (maquettelaw05_PrefixEnds.j0 k true a0_0 a0_1 a1 32 0 0) = some r := by rw [if_neg (show ¬ (false = true) by decide)] at H; exact H
    clear H
    have H := H1
    clear H1
    have H' := Aside0.mk H
    clear H
    have hnb25 := NB143_141.out
    have hnc25 := NB141_143.out
    have hnb26 := NB143_144.out
    have hnc26 := NB144_143.out
    obtain ⟨hcz27_0, hcz27_1, hfz27_0, hfz27_1⟩ := bc2 BK143
    go_wp2_with (first | ((with_reducible refine gate_dst (N := 13) rfl ?_); refine gl (some 13) Tryd.func16 #[.agg #[.int .u32 a1, .int .i64 32]] ?_; (with_reducible refine (prefix_May.calls a1 32 false _ A15.out).mono ?_); rintro e w28 ⟨rfl, hb⟩; refine ⟨_, rfl, ?_⟩; replace BK141 := bkb BK141 hb; replace BK143 := Aside0.mk (blk_below (g := gb143) (o := .cells #[.int .u32 a1, .int .i64 32] 24 (0, 0)) (bkp BK143) hb); replace BK144 := Aside0.mk (blk_below (g := gb144) (o := .cells #[.int .u32 0, .int .i64 0] 24 (0, 0)) (bkp BK144) hb); replace HB := bst hb; (try clear hb); (try clear hb2); (try clear hk); (try clear hi)))
    go_meet
    case rel => exact ⟨_, (true), (by first | rfl | (simp; done) | (simp [*]; done)), H', ⟨by first | omega | exact Nat.le_refl _⟩, ⟨bkq BK141⟩, ⟨bkq BK143⟩, ⟨bkq BK144⟩, ⟨by repeat (first | (with_reducible first | exact HB.out | apply below_alloc | apply pw_below_drewN | apply below_drew1 | refine below_set ?_ GE141.out | refine below_set ?_ GE143.out | refine below_set ?_ GE144.out) | exact HB.out)⟩⟩
  case rest =>
   clear HC5
   try clear c1
   try clear c2
   try clear p2
   try clear c4
   try clear c7
   try clear c10
   try clear c11
   try clear c13
   try clear c15
   try clear c16
   try clear c18
   try clear c19
   try clear c22
   try clear c25
   try clear c26
   try clear hcz12_0 hcz12_1 hfz12_0 hfz12_1
   try clear hcz14_0 hcz14_1 hfz14_0 hfz14_1
   try clear hcz20_0 hcz20_1 hfz20_0 hfz20_1
   try clear hcz23_0 hcz23_1 hfz23_0 hfz23_1
   try clear hcz27_0 hcz27_1 hfz27_0 hfz27_1
   obtain ⟨kq, x19_4, rfl, HA, HJ4, BK141, BK143, BK144, HB⟩ := hcut
   cases kq with
   | zero => exact absurd HA.out (by simp [maquettelaw05_PrefixEnds.j0])
   | succ kj4 =>
    have H := HA.out
    clear HA
    simp only [maquettelaw05_PrefixEnds.j0] at H
    by_cases c29 : x19_4 = true
    ·subst c29
     have H1 : (some false) = some r := by rw [if_pos rfl] at H; exact H
     clear H
     have H := H1
     clear H1
     obtain rfl := Option.some.inj H
     go_wp2
     go_ret
     exact ⟨by first | rfl | (simp [errW_none, errW_some] <;> rfl) | (simp [*, errW_none, errW_some] <;> rfl), by repeat (first | (with_reducible first | exact HB.out | apply below_alloc | apply pw_below_drewN | apply below_drew1 | refine below_set ?_ GE141.out | refine below_set ?_ GE143.out | refine below_set ?_ GE144.out) | exact HB.out)⟩
    ·replace c29 := Bool.eq_false_iff.mpr c29
     subst c29
     have H1 : ((prefix_Covers.f a1 32 a0_0 a0_1).bind fun t147 => (if (t147 == (a0_0 == a1 && (a0_1 == 32))) = true then ((prefix_Covers.f 0 0 a0_0 a0_1).bind fun t148 => ((prefix_May.f a0_0 a0_1).bind fun t149 => (if (t148 == t149) = true then ((prefix_Covers.f a0_0 a0_1 a0_0 a0_1).bind fun t150 => ((prefix_May.f a0_0 a0_1).bind fun t151 => (some (t150 == t151)))) else (some false)))) else (some false))) = some r := by rw [if_neg (show ¬ (false = true) by decide)] at H; exact H
     clear H
     have H := H1
     clear H1
     replace H := Option.bind_eq_some_iff.mp H
     obtain ⟨t147, A300, H⟩ := H
     replace H : (if (t147 == (a0_0 == a1 && (a0_1 == 32))) = true then ((prefix_Covers.f 0 0 a0_0 a0_1).bind fun t148 => ((prefix_May.f a0_0 a0_1).bind fun t149 => (if (t148 == t149) = true then ((prefix_Covers.f a0_0 a0_1 a0_0 a0_1).bind fun t150 => ((prefix_May.f a0_0 a0_1).bind fun t151 => (some (t150 == t151)))) else (some false)))) else (some false)) = some r := H
     have A30 := Aside0.mk A300
     clear A300
     by_cases c31 : (t147 == (a0_0 == a1 && (a0_1 == 32))) = true
     ·rw [if_pos c31] at H
      have c31b0 : (t147 == (a0_0 == a1 && (a0_1 == 32))) = true := c31
      (try (have c31b1 : decide (t147 = (a0_0 == a1 && (a0_1 == 32))) = true := by simpa using c31))
      (try (have c31b2 : (t147 == (a0_0 == a1 && (a0_1 == 32))) = true := by simpa using c31))
      clear c31
      replace H := Option.bind_eq_some_iff.mp H
      obtain ⟨t148, A320, H⟩ := H
      replace H : ((prefix_May.f a0_0 a0_1).bind fun t149 => (if (t148 == t149) = true then ((prefix_Covers.f a0_0 a0_1 a0_0 a0_1).bind fun t150 => ((prefix_May.f a0_0 a0_1).bind fun t151 => (some (t150 == t151)))) else (some false))) = some r := H
      have A32 := Aside0.mk A320
      clear A320
      replace H := Option.bind_eq_some_iff.mp H
      obtain ⟨t149, A330, H⟩ := H
      replace H : (if (t148 == t149) = true then ((prefix_Covers.f a0_0 a0_1 a0_0 a0_1).bind fun t150 => ((prefix_May.f a0_0 a0_1).bind fun t151 => (some (t150 == t151)))) else (some false)) = some r := H
      have A33 := Aside0.mk A330
      clear A330
      by_cases c34 : (t148 == t149) = true
      ·rw [if_pos c34] at H
       have c34b0 : (t148 == t149) = true := c34
       (try (have c34b1 : decide (t148 = t149) = true := by simpa using c34))
       (try (have c34b2 : (t148 == t149) = true := by simpa using c34))
       clear c34
       replace H := Option.bind_eq_some_iff.mp H
       obtain ⟨t150, A350, H⟩ := H
       replace H : ((prefix_May.f a0_0 a0_1).bind fun t151 => (some (t150 == t151))) = some r := H
       have A35 := Aside0.mk A350
       clear A350
       replace H := Option.bind_eq_some_iff.mp H
       obtain ⟨t151, A360, H⟩ := H
       replace H : (some (t150 == t151)) = some r := H
       have A36 := Aside0.mk A360
       clear A360
       obtain rfl := Option.some.inj H
       try go_wp2
       replace BK141 := Aside0.mk (blk_drew BK141.out)
       replace BK143 := Aside0.mk (blk_drew BK143.out)
       replace BK144 := Aside0.mk (blk_drew BK144.out)
       replace HB := Aside0.mk (below_drew1 HB.out)
       refine start_ (n := 24) (S := fun w' => w'.cell? ⟨gb143, 0, none⟩ = some (.int .u32 a1) ∧ w'.cell? ⟨gb143, 1, none⟩ = some (.int .i64 32) ∧ w'.cell? ⟨gb141, 0, none⟩ = some (.int .u32 a0_0) ∧ w'.cell? ⟨gb141, 1, none⟩ = some (.int .i64 a0_1) ∧ w'.cell? ⟨gb144, 0, none⟩ = some (.int .u32 0) ∧ w'.cell? ⟨gb144, 1, none⟩ = some (.int .i64 0)) (ds := []) #[false, false, false, false, false, false, false, false, false, false, false, false, false, false, false, false, false, false, false, false, false, false, false, false] (by kernel_rfl) rfl rfl ⟨(blk_cell BK143.out 0).trans rfl, (blk_cell BK143.out 1).trans rfl, (blk_cell BK141.out 0).trans rfl, (blk_cell BK141.out 1).trans rfl, (blk_cell BK144.out 0).trans rfl, (blk_cell BK144.out 1).trans rfl⟩ (fun hHeld => ?_); refine with_tabW maquettelaw05_PrefixEnds.tab6 maquettelaw05_PrefixEnds.bits6 (fun HT_ HW_ => ?_)
       generalize wc.drew = w37 at BK141 BK143 BK144 HB hHeld ⊢
       refine tk HT_ HW_ 0 (some 20) (mk 24 1) hHeld ?_
       refine tk HT_ HW_ 1 (some 21) (mk 24 3) hHeld ?_
       refine tk HT_ HW_ 3 (some 23) (mk 24 11) hHeld ?_
       refine tk HT_ HW_ 4 (some 24) (mk 24 27) hHeld ?_
       refine pu HT_ 5 (some 25) (mk 24 59) ?_
       refine on HT_ 2 (some 22) (mk 24 63) fun K hK => ?_
       refine go1 Tryd.func24 #[.agg #[.int .u32 a1, .int .i64 32], .agg #[.int .u32 a0_0, .int .i64 a0_1]] ?_
       with_reducible refine (prefix_Covers.calls a1 32 a0_0 a0_1 t147 _ A30.out).mono ?_
       rintro e w38 ⟨rfl, hb⟩
       refine ⟨_, rfl, ?_⟩
       replace BK141 := bkb BK141 hb
       replace BK143 := bkb BK143 hb
       replace BK144 := bkb BK144 hb
       replace HB := bst hb
       (try clear hb)
       (try clear hb2)
       (try clear hk)
       (try clear hi)
       refine hK.out _ _ ⟨(blk_cell BK143.out 0).trans rfl, (blk_cell BK143.out 1).trans rfl, (blk_cell BK141.out 0).trans rfl, (blk_cell BK141.out 1).trans rfl, (blk_cell BK144.out 0).trans rfl, (blk_cell BK144.out 1).trans rfl⟩ (fun hHeld => ?_)
       clear hK K
       refine nm (some 22) ?_
       refine pu HT_ 6 (some 26) (mk 24 127) ?_
       refine pu HT_ 7 (some 27) (mk 24 255) ?_
       refine tk HT_ HW_ 8 (some 28) (mk 24 511) hHeld ?_
       refine tk HT_ HW_ 9 (some 29) (mk 24 1023) hHeld ?_
       refine tk HT_ HW_ 11 (some 31) (mk 24 3071) hHeld ?_
       refine on HT_ 10 (some 30) (mk 24 4095) fun K hK => ?_
       refine go1 Tryd.func24 #[.agg #[.int .u32 0, .int .i64 0], .agg #[.int .u32 a0_0, .int .i64 a0_1]] ?_
       with_reducible refine (prefix_Covers.calls 0 0 a0_0 a0_1 t148 _ A32.out).mono ?_
       rintro e w39 ⟨rfl, hb⟩
       refine ⟨_, rfl, ?_⟩
       replace BK141 := bkb BK141 hb
       replace BK143 := bkb BK143 hb
       replace BK144 := bkb BK144 hb
       replace HB := bst hb
       (try clear hb)
       (try clear hb2)
       (try clear hk)
       (try clear hi)
       refine hK.out _ _ ⟨(blk_cell BK143.out 0).trans rfl, (blk_cell BK143.out 1).trans rfl, (blk_cell BK141.out 0).trans rfl, (blk_cell BK141.out 1).trans rfl, (blk_cell BK144.out 0).trans rfl, (blk_cell BK144.out 1).trans rfl⟩ (fun hHeld => ?_)
       clear hK K
       refine nm (some 30) ?_
       refine on HT_ 12 (some 32) (mk 24 8191) fun K hK => ?_
       refine go1 Tryd.func16 #[.agg #[.int .u32 a0_0, .int .i64 a0_1]] ?_
       with_reducible refine (prefix_May.calls a0_0 a0_1 t149 _ A33.out).mono ?_
       rintro e w40 ⟨rfl, hb⟩
       refine ⟨_, rfl, ?_⟩
       replace BK141 := bkb BK141 hb
       replace BK143 := bkb BK143 hb
       replace BK144 := bkb BK144 hb
       replace HB := bst hb
       (try clear hb)
       (try clear hb2)
       (try clear hk)
       (try clear hi)
       refine hK.out _ _ ⟨(blk_cell BK143.out 0).trans rfl, (blk_cell BK143.out 1).trans rfl, (blk_cell BK141.out 0).trans rfl, (blk_cell BK141.out 1).trans rfl, (blk_cell BK144.out 0).trans rfl, (blk_cell BK144.out 1).trans rfl⟩ (fun hHeld => ?_)
       clear hK K
       refine nm (some 32) ?_
       refine pu HT_ 13 (some 33) (mk 24 16383) ?_
       refine pu HT_ 14 (some 34) (mk 24 32767) ?_
       refine pu HT_ 15 (some 35) (mk 24 65535) ?_
       refine tk HT_ HW_ 16 (some 36) (mk 24 131071) hHeld ?_
       refine tk HT_ HW_ 17 (some 37) (mk 24 262143) hHeld ?_
       refine tk HT_ HW_ 19 (some 39) (mk 24 786431) hHeld ?_
       refine on HT_ 18 (some 38) (mk 24 1048575) fun K hK => ?_
       refine go1 Tryd.func24 #[.agg #[.int .u32 a0_0, .int .i64 a0_1], .agg #[.int .u32 a0_0, .int .i64 a0_1]] ?_
       with_reducible refine (prefix_Covers.calls a0_0 a0_1 a0_0 a0_1 t150 _ A35.out).mono ?_
       rintro e w41 ⟨rfl, hb⟩
       refine ⟨_, rfl, ?_⟩
       replace BK141 := bkb BK141 hb
       replace BK143 := bkb BK143 hb
       replace BK144 := bkb BK144 hb
       replace HB := bst hb
       (try clear hb)
       (try clear hb2)
       (try clear hk)
       (try clear hi)
       refine hK.out _ _ ⟨(blk_cell BK143.out 0).trans rfl, (blk_cell BK143.out 1).trans rfl, (blk_cell BK141.out 0).trans rfl, (blk_cell BK141.out 1).trans rfl, (blk_cell BK144.out 0).trans rfl, (blk_cell BK144.out 1).trans rfl⟩ (fun hHeld => ?_)
       clear hK K
       refine nm (some 38) ?_
       refine on HT_ 20 (some 40) (mk 24 2097151) fun K hK => ?_
       refine go1 Tryd.func16 #[.agg #[.int .u32 a0_0, .int .i64 a0_1]] ?_
       with_reducible refine (prefix_May.calls a0_0 a0_1 t151 _ A36.out).mono ?_
       rintro e w42 ⟨rfl, hb⟩
       refine ⟨_, rfl, ?_⟩
       replace BK141 := bkb BK141 hb
       replace BK143 := bkb BK143 hb
       replace BK144 := bkb BK144 hb
       replace HB := bst hb
       (try clear hb)
       (try clear hb2)
       (try clear hk)
       (try clear hi)
       refine hK.out _ _ ⟨(blk_cell BK143.out 0).trans rfl, (blk_cell BK143.out 1).trans rfl, (blk_cell BK141.out 0).trans rfl, (blk_cell BK141.out 1).trans rfl, (blk_cell BK144.out 0).trans rfl, (blk_cell BK144.out 1).trans rfl⟩ (fun hHeld => ?_)
       clear hK K
       refine nm (some 40) ?_
       refine pu HT_ 21 (some 41) (mk 24 4194303) ?_
       refine pu HT_ 22 (some 42) (mk 24 8388607) ?_
       refine pu HT_ 23 (some 4) (mk 24 16777215) ?_
       refine done_ (done_of HT_.out (by kernel_rfl)) ?_
       try go_wp2
       go_ret
       exact ⟨by first | rfl | (simp [errW_none, errW_some] <;> rfl) | (simp [*, errW_none, errW_some] <;> rfl), by repeat (first | (with_reducible first | exact HB.out | apply below_alloc | apply pw_below_drewN | apply below_drew1 | refine below_set ?_ GE141.out | refine below_set ?_ GE143.out | refine below_set ?_ GE144.out) | exact HB.out)⟩
      ·rw [if_neg c34] at H
       have c34b0 : (t148 == t149) = false := by simpa using c34
       (try (have c34b1 : decide (t148 = t149) = false := by simpa using c34))
       (try (have c34b2 : (t148 == t149) = false := by simpa using c34))
       (try (have c34b3 : ¬ (t148 = t149) := by simpa using c34))
       clear c34
       obtain rfl := Option.some.inj H
       try go_wp2
       replace BK141 := Aside0.mk (blk_drew BK141.out)
       replace BK143 := Aside0.mk (blk_drew BK143.out)
       replace BK144 := Aside0.mk (blk_drew BK144.out)
       replace HB := Aside0.mk (below_drew1 HB.out)
       refine start_ (n := 24) (S := fun w' => w'.cell? ⟨gb143, 0, none⟩ = some (.int .u32 a1) ∧ w'.cell? ⟨gb143, 1, none⟩ = some (.int .i64 32) ∧ w'.cell? ⟨gb141, 0, none⟩ = some (.int .u32 a0_0) ∧ w'.cell? ⟨gb141, 1, none⟩ = some (.int .i64 a0_1) ∧ w'.cell? ⟨gb144, 0, none⟩ = some (.int .u32 0) ∧ w'.cell? ⟨gb144, 1, none⟩ = some (.int .i64 0)) (ds := []) #[false, false, false, false, false, false, false, false, false, false, false, false, false, false, false, false, false, false, false, false, false, false, false, false] (by kernel_rfl) rfl rfl ⟨(blk_cell BK143.out 0).trans rfl, (blk_cell BK143.out 1).trans rfl, (blk_cell BK141.out 0).trans rfl, (blk_cell BK141.out 1).trans rfl, (blk_cell BK144.out 0).trans rfl, (blk_cell BK144.out 1).trans rfl⟩ (fun hHeld => ?_); refine with_tabW maquettelaw05_PrefixEnds.tab6 maquettelaw05_PrefixEnds.bits6 (fun HT_ HW_ => ?_)
       generalize wc.drew = w43 at BK141 BK143 BK144 HB hHeld ⊢
       refine tk HT_ HW_ 0 (some 20) (mk 24 1) hHeld ?_
       refine tk HT_ HW_ 1 (some 21) (mk 24 3) hHeld ?_
       refine tk HT_ HW_ 3 (some 23) (mk 24 11) hHeld ?_
       refine tk HT_ HW_ 4 (some 24) (mk 24 27) hHeld ?_
       refine pu HT_ 5 (some 25) (mk 24 59) ?_
       refine on HT_ 2 (some 22) (mk 24 63) fun K hK => ?_
       refine go1 Tryd.func24 #[.agg #[.int .u32 a1, .int .i64 32], .agg #[.int .u32 a0_0, .int .i64 a0_1]] ?_
       with_reducible refine (prefix_Covers.calls a1 32 a0_0 a0_1 t147 _ A30.out).mono ?_
       rintro e w44 ⟨rfl, hb⟩
       refine ⟨_, rfl, ?_⟩
       replace BK141 := bkb BK141 hb
       replace BK143 := bkb BK143 hb
       replace BK144 := bkb BK144 hb
       replace HB := bst hb
       (try clear hb)
       (try clear hb2)
       (try clear hk)
       (try clear hi)
       refine hK.out _ _ ⟨(blk_cell BK143.out 0).trans rfl, (blk_cell BK143.out 1).trans rfl, (blk_cell BK141.out 0).trans rfl, (blk_cell BK141.out 1).trans rfl, (blk_cell BK144.out 0).trans rfl, (blk_cell BK144.out 1).trans rfl⟩ (fun hHeld => ?_)
       clear hK K
       refine nm (some 22) ?_
       refine pu HT_ 6 (some 26) (mk 24 127) ?_
       refine pu HT_ 7 (some 27) (mk 24 255) ?_
       refine tk HT_ HW_ 8 (some 28) (mk 24 511) hHeld ?_
       refine tk HT_ HW_ 9 (some 29) (mk 24 1023) hHeld ?_
       refine tk HT_ HW_ 11 (some 31) (mk 24 3071) hHeld ?_
       refine on HT_ 10 (some 30) (mk 24 4095) fun K hK => ?_
       refine go1 Tryd.func24 #[.agg #[.int .u32 0, .int .i64 0], .agg #[.int .u32 a0_0, .int .i64 a0_1]] ?_
       with_reducible refine (prefix_Covers.calls 0 0 a0_0 a0_1 t148 _ A32.out).mono ?_
       rintro e w45 ⟨rfl, hb⟩
       refine ⟨_, rfl, ?_⟩
       replace BK141 := bkb BK141 hb
       replace BK143 := bkb BK143 hb
       replace BK144 := bkb BK144 hb
       replace HB := bst hb
       (try clear hb)
       (try clear hb2)
       (try clear hk)
       (try clear hi)
       refine hK.out _ _ ⟨(blk_cell BK143.out 0).trans rfl, (blk_cell BK143.out 1).trans rfl, (blk_cell BK141.out 0).trans rfl, (blk_cell BK141.out 1).trans rfl, (blk_cell BK144.out 0).trans rfl, (blk_cell BK144.out 1).trans rfl⟩ (fun hHeld => ?_)
       clear hK K
       refine nm (some 30) ?_
       refine on HT_ 12 (some 32) (mk 24 8191) fun K hK => ?_
       refine go1 Tryd.func16 #[.agg #[.int .u32 a0_0, .int .i64 a0_1]] ?_
       with_reducible refine (prefix_May.calls a0_0 a0_1 t149 _ A33.out).mono ?_
       rintro e w46 ⟨rfl, hb⟩
       refine ⟨_, rfl, ?_⟩
       replace BK141 := bkb BK141 hb
       replace BK143 := bkb BK143 hb
       replace BK144 := bkb BK144 hb
       replace HB := bst hb
       (try clear hb)
       (try clear hb2)
       (try clear hk)
       (try clear hi)
       refine hK.out _ _ ⟨(blk_cell BK143.out 0).trans rfl, (blk_cell BK143.out 1).trans rfl, (blk_cell BK141.out 0).trans rfl, (blk_cell BK141.out 1).trans rfl, (blk_cell BK144.out 0).trans rfl, (blk_cell BK144.out 1).trans rfl⟩ (fun hHeld => ?_)
       clear hK K
       refine nm (some 32) ?_
       refine pu HT_ 13 (some 33) (mk 24 16383) ?_
       refine pu HT_ 14 (some 34) (mk 24 32767) ?_
       refine pu HT_ 15 (some 35) (mk 24 65535) ?_
       refine pun HT_ 16 (some 36) (mk 24 131071) ?_
       refine pun HT_ 17 (some 37) (mk 24 262143) ?_
       refine pun HT_ 18 (some 38) (mk 24 524287) ?_
       refine pun HT_ 19 (some 39) (mk 24 1048575) ?_
       refine pun HT_ 20 (some 40) (mk 24 2097151) ?_
       refine pun HT_ 21 (some 41) (mk 24 4194303) ?_
       refine pu HT_ 22 (some 42) (mk 24 8388607) ?_
       refine pu HT_ 23 (some 4) (mk 24 16777215) ?_
       refine done_ (done_of HT_.out (by kernel_rfl)) ?_
       try go_wp2
       go_ret
       exact ⟨by first | rfl | (simp [errW_none, errW_some] <;> rfl) | (simp [*, errW_none, errW_some] <;> rfl), by repeat (first | (with_reducible first | exact HB.out | apply below_alloc | apply pw_below_drewN | apply below_drew1 | refine below_set ?_ GE141.out | refine below_set ?_ GE143.out | refine below_set ?_ GE144.out) | exact HB.out)⟩
     ·rw [if_neg c31] at H
      have c31b0 : (t147 == (a0_0 == a1 && (a0_1 == 32))) = false := by simpa using c31
      (try (have c31b1 : decide (t147 = (a0_0 == a1 && (a0_1 == 32))) = false := by simpa using c31))
      (try (have c31b2 : (t147 == (a0_0 == a1 && (a0_1 == 32))) = false := by simpa using c31))
      (try (have c31b3 : ¬ (t147 = (a0_0 == a1 && (a0_1 == 32))) := by simpa using c31))
      clear c31
      obtain rfl := Option.some.inj H
      try go_wp2
      replace BK141 := Aside0.mk (blk_drew BK141.out)
      replace BK143 := Aside0.mk (blk_drew BK143.out)
      replace BK144 := Aside0.mk (blk_drew BK144.out)
      replace HB := Aside0.mk (below_drew1 HB.out)
      refine start_ (n := 24) (S := fun w' => w'.cell? ⟨gb143, 0, none⟩ = some (.int .u32 a1) ∧ w'.cell? ⟨gb143, 1, none⟩ = some (.int .i64 32) ∧ w'.cell? ⟨gb141, 0, none⟩ = some (.int .u32 a0_0) ∧ w'.cell? ⟨gb141, 1, none⟩ = some (.int .i64 a0_1)) (ds := []) #[false, false, false, false, false, false, false, false, false, false, false, false, false, false, false, false, false, false, false, false, false, false, false, false] (by kernel_rfl) rfl rfl ⟨(blk_cell BK143.out 0).trans rfl, (blk_cell BK143.out 1).trans rfl, (blk_cell BK141.out 0).trans rfl, (blk_cell BK141.out 1).trans rfl⟩ (fun hHeld => ?_); refine with_tabW maquettelaw05_PrefixEnds.tab6 maquettelaw05_PrefixEnds.bits6 (fun HT_ HW_ => ?_)
      generalize wc.drew = w47 at BK141 BK143 BK144 HB hHeld ⊢
      refine tk HT_ HW_ 0 (some 20) (mk 24 1) hHeld ?_
      refine tk HT_ HW_ 1 (some 21) (mk 24 3) hHeld ?_
      refine tk HT_ HW_ 3 (some 23) (mk 24 11) hHeld ?_
      refine tk HT_ HW_ 4 (some 24) (mk 24 27) hHeld ?_
      refine pu HT_ 5 (some 25) (mk 24 59) ?_
      refine on HT_ 2 (some 22) (mk 24 63) fun K hK => ?_
      refine go1 Tryd.func24 #[.agg #[.int .u32 a1, .int .i64 32], .agg #[.int .u32 a0_0, .int .i64 a0_1]] ?_
      with_reducible refine (prefix_Covers.calls a1 32 a0_0 a0_1 t147 _ A30.out).mono ?_
      rintro e w48 ⟨rfl, hb⟩
      refine ⟨_, rfl, ?_⟩
      replace BK141 := bkb BK141 hb
      replace BK143 := bkb BK143 hb
      replace BK144 := bkb BK144 hb
      replace HB := bst hb
      (try clear hb)
      (try clear hb2)
      (try clear hk)
      (try clear hi)
      refine hK.out _ _ ⟨(blk_cell BK143.out 0).trans rfl, (blk_cell BK143.out 1).trans rfl, (blk_cell BK141.out 0).trans rfl, (blk_cell BK141.out 1).trans rfl⟩ (fun hHeld => ?_)
      clear hK K
      refine nm (some 22) ?_
      refine pu HT_ 6 (some 26) (mk 24 127) ?_
      refine pu HT_ 7 (some 27) (mk 24 255) ?_
      refine pun HT_ 8 (some 28) (mk 24 511) ?_
      refine pun HT_ 9 (some 29) (mk 24 1023) ?_
      refine pun HT_ 10 (some 30) (mk 24 2047) ?_
      refine pun HT_ 11 (some 31) (mk 24 4095) ?_
      refine pun HT_ 12 (some 32) (mk 24 8191) ?_
      refine pun HT_ 13 (some 33) (mk 24 16383) ?_
      refine pu HT_ 14 (some 34) (mk 24 32767) ?_
      refine pu HT_ 15 (some 35) (mk 24 65535) ?_
      refine pun HT_ 16 (some 36) (mk 24 131071) ?_
      refine pun HT_ 17 (some 37) (mk 24 262143) ?_
      refine pun HT_ 18 (some 38) (mk 24 524287) ?_
      refine pun HT_ 19 (some 39) (mk 24 1048575) ?_
      refine pun HT_ 20 (some 40) (mk 24 2097151) ?_
      refine pun HT_ 21 (some 41) (mk 24 4194303) ?_
      refine pu HT_ 22 (some 42) (mk 24 8388607) ?_
      refine pu HT_ 23 (some 4) (mk 24 16777215) ?_
      refine done_ (done_of HT_.out (by kernel_rfl)) ?_
      try go_wp2
      go_ret
      exact ⟨by first | rfl | (simp [errW_none, errW_some] <;> rfl) | (simp [*, errW_none, errW_some] <;> rfl), by repeat (first | (with_reducible first | exact HB.out | apply below_alloc | apply pw_below_drewN | apply below_drew1 | refine below_set ?_ GE141.out | refine below_set ?_ GE143.out | refine below_set ?_ GE144.out) | exact HB.out)⟩
 ·replace c4 := Bool.eq_false_iff.mpr c4
  subst c4
  have H1 : (some false) = some r := by rw [if_neg (show ¬ (false = true) by decide)] at H; exact H
  clear H
  have H := H1
  clear H1
  obtain rfl := Option.some.inj H
  go_enter Tryd.func7, Tryd.ntmps7
  go_wp2_with (first | ((with_reducible refine gate_dst (N := 2) rfl ?_); refine bx 2 (cs := #[.int .u32 a0_0, .int .i64 a0_1]) (t := 24) (h := ?_); intro gb141 hg w49 hbox hb; have BK141 := Aside0.mk hbox; have GW141 : Aside0 (w.heap.size ≤ gb141) := bge hg; have GE141 : Aside0 (w.heap.size ≤ gb141) := bge hg; replace HB := bst hb; clear hb hbox hg) | ((with_reducible refine gate_dst (N := 7) rfl ?_); refine gl (some 7) Tryd.func15 #[] ?_; (with_reducible refine (maquettelaw05_awake.calls k  false _ A3.out (by with_reducible first | exact hInv | exact Go.Proofs.YtkbjjamaneiijaaDoor.Inv.Inv.below hInv HB.out | exact Go.Proofs.YtkbjjamaneiijaaDoor.Inv.Inv.below hInv bel | (repeat (first | exact hInv | exact Go.Proofs.YtkbjjamaneiijaaDoor.Inv.Inv.below hInv HB.out | exact Go.Proofs.YtkbjjamaneiijaaDoor.Inv.Inv.below hInv bel | apply Go.Proofs.YtkbjjamaneiijaaDoor.Inv.Inv.alloc | apply Go.Proofs.YtkbjjamaneiijaaDoor.Inv.Inv.drewN | apply Go.Proofs.YtkbjjamaneiijaaDoor.Inv.Inv.drew)))).mono ?_); rintro e w50 ⟨rfl, hb⟩; refine ⟨_, rfl, ?_⟩; replace BK141 := bkb BK141 hb; replace HB := bst hb; (try clear hb); (try clear hb2); (try clear hk); (try clear hi)))
  go_ret
  exact ⟨by first | rfl | (simp [errW_none, errW_some] <;> rfl) | (simp [*, errW_none, errW_some] <;> rfl), by repeat (first | (with_reducible first | exact HB.out | apply below_alloc | apply pw_below_drewN | apply below_drew1 | refine below_set ?_ GE141.out) | exact HB.out)⟩

end Go.Proofs.YtkbjjamaneiijaaDoor.PPre
