-- Written by wip/xprint.py of this work: the printer of the kit, with contracts of this work beside it, shortened.
import Derived.Test.YtkbjjamaneiijaaDoorShort
import Derived.Test.YtkbjjamaneiijaaDoorPCovx0
import Derived.Test.YtkbjjamaneiijaaDoorPCovx2
import Derived.Test.YtkbjjamaneiijaaDoorPCovx3
namespace Go.Proofs.YtkbjjamaneiijaaDoor.PCov
open Go.RowKit Go.Proofs.YtkbjjamaneiijaaDoor.Short Go.Proofs.YtkbjjamaneiijaaDoorW.PrintWords Go.Proofs.YtkbjjamaneiijaaDoorW.PrintLast Go.Proofs.YtkbjjamaneiijaaDoorW.PrintMore
attribute [local go_sem] max2_int min2_int max_two min_two max_three min_three max_four min_four   -- for this text's walks alone
set_option linter.unusedVariables false
set_option linter.unusedSimpArgs false

/-! ### maquettelaw05_PrefixCovers_1: function 22 -/
mutual
def maquettelaw05_PrefixCovers_1.j0 : Nat → Bool → Int → Int → Int → Int → Option (Bool)
 | 0, _, _, _, _, _ => none
 | k + 1, x20, x104000, x104001, x105000, x105001 => if x20 = true then (some false) else (maquettelaw05_PrefixCovers_1.l0 k 0 x104000 x104001 x105000 x105001)
def maquettelaw05_PrefixCovers_1.l0 : Nat → Int → Int → Int → Int → Int → Option (Bool)
 | 0, _, _, _, _, _ => none
 | k + 1, x5, x104000, x104001, x105000, x105001 => if x5 < x104001 then ((maquettelaw05_bit.f x104000 x5).bind fun t107 => ((maquettelaw05_bit.f x105000 x5).bind fun t108 => (if t107 = t108 then (maquettelaw05_PrefixCovers_1.l0 k (wrap64 (x5 + 1)) x104000 x104001 x105000 x105001) else (some false)))) else (some true)
end
def maquettelaw05_PrefixCovers_1.f (k : Nat) (a0_0 : Int) (a0_1 : Int) (a1_0 : Int) (a1_1 : Int) : Option (Bool) := (maquettelaw05_may.f k a0_0 a0_1).bind fun t105 => (if t105 = true then ((maquettelaw05_may.f k a1_0 a1_1).bind fun t106 => (if t106 = true then (maquettelaw05_PrefixCovers_1.j0 k (decide (a0_1 > a1_1)) a0_0 a0_1 a1_0 a1_1) else (maquettelaw05_PrefixCovers_1.j0 k true a0_0 a0_1 a1_0 a1_1))) else (maquettelaw05_PrefixCovers_1.j0 k true a0_0 a0_1 a1_0 a1_1))
theorem maquettelaw05_PrefixCovers_1.mono_l : ∀ k, (∀ y0 y1 y2 y3 y4, LeO (maquettelaw05_PrefixCovers_1.j0 k y0 y1 y2 y3 y4) (maquettelaw05_PrefixCovers_1.j0 (k + 1) y0 y1 y2 y3 y4)) ∧ (∀ y0 y1 y2 y3 y4, LeO (maquettelaw05_PrefixCovers_1.l0 k y0 y1 y2 y3 y4) (maquettelaw05_PrefixCovers_1.l0 (k + 1) y0 y1 y2 y3 y4))
 | 0 => ⟨fun _ _ _ _ _ r h => by simp [maquettelaw05_PrefixCovers_1.j0] at h, fun _ _ _ _ _ r h => by simp [maquettelaw05_PrefixCovers_1.l0] at h⟩
 | k + 1 => by
  obtain ⟨ih0, ih1⟩ := maquettelaw05_PrefixCovers_1.mono_l k
  refine ⟨?_, ?_⟩
  ·intro y0 y1 y2 y3 y4
   unfold maquettelaw05_PrefixCovers_1.j0
   repeat' first
   | (with_reducible exact ih0 _ _ _ _ _)
   | (with_reducible exact ih1 _ _ _ _ _)
   | (with_reducible exact maquettelaw05_may.mono _ _ _)
   | (with_reducible exact LeO.refl _)
   | (with_reducible exact LeO.none _)
   | (with_reducible refine LeO.ite ?_ ?_)
   | (with_reducible refine LeO.bind ?_ (fun _ => ?_))
   | exact ih0 _ _ _ _ _
   | exact ih1 _ _ _ _ _
   | exact maquettelaw05_may.mono _ _ _
   | exact LeO.none _
   | refine LeO.ite ?_ ?_
   | refine LeO.bind ?_ (fun _ => ?_)
  ·intro y0 y1 y2 y3 y4
   unfold maquettelaw05_PrefixCovers_1.l0
   repeat' first
   | (with_reducible exact ih0 _ _ _ _ _)
   | (with_reducible exact ih1 _ _ _ _ _)
   | (with_reducible exact maquettelaw05_may.mono _ _ _)
   | (with_reducible exact LeO.refl _)
   | (with_reducible exact LeO.none _)
   | (with_reducible refine LeO.ite ?_ ?_)
   | (with_reducible refine LeO.bind ?_ (fun _ => ?_))
   | exact ih0 _ _ _ _ _
   | exact ih1 _ _ _ _ _
   | exact maquettelaw05_may.mono _ _ _
   | exact LeO.none _
   | refine LeO.ite ?_ ?_
   | refine LeO.bind ?_ (fun _ => ?_)
theorem maquettelaw05_PrefixCovers_1.mono : ∀ a0 a1 a2 a3 k, LeO (maquettelaw05_PrefixCovers_1.f k a0 a1 a2 a3) (maquettelaw05_PrefixCovers_1.f (k + 1) a0 a1 a2 a3) := by
 intro a0 a1 a2 a3 k
 obtain ⟨ih0, ih1⟩ := maquettelaw05_PrefixCovers_1.mono_l k
 unfold maquettelaw05_PrefixCovers_1.f
 repeat' first
   | (with_reducible exact ih0 _ _ _ _ _)
   | (with_reducible exact ih1 _ _ _ _ _)
   | (with_reducible exact maquettelaw05_may.mono _ _ _)
   | (with_reducible exact LeO.refl _)
   | (with_reducible exact LeO.none _)
   | (with_reducible refine LeO.ite ?_ ?_)
   | (with_reducible refine LeO.bind ?_ (fun _ => ?_))
   | exact ih0 _ _ _ _ _
   | exact ih1 _ _ _ _ _
   | exact maquettelaw05_may.mono _ _ _
   | exact LeO.none _
   | refine LeO.ite ?_ ?_
   | refine LeO.bind ?_ (fun _ => ?_)
set_option maxHeartbeats 8000000 in
set_option maxRecDepth 100000 in
theorem maquettelaw05_PrefixCovers_1.calls (k : Nat) (a0_0 : Int) (a0_1 : Int) (a1_0 : Int) (a1_1 : Int) (r : Bool) (w : World) (h : maquettelaw05_PrefixCovers_1.f k a0_0 a0_1 a1_0 a1_1 = some r) :
  Calls Tryd.prog 22 #[.agg #[.int .u32 a0_0, .int .i64 a0_1], .agg #[.int .u32 a1_0, .int .i64 a1_1]] w fun e w' => e = .returned (.bool r) ∧ Below w.heap.size w w' := by
 have hu24 := Tryd.underlying24
 have HB := Aside0.mk (Below.refl w.heap.size w)
 have H : ((maquettelaw05_may.f k a0_0 a0_1).bind fun t105 => (if t105 = true then ((maquettelaw05_may.f k a1_0 a1_1).bind fun t106 => (if t106 = true then (maquettelaw05_PrefixCovers_1.j0 k (decide (a0_1 > a1_1)) a0_0 a0_1 a1_0 a1_1) else (maquettelaw05_PrefixCovers_1.j0 k true a0_0 a0_1 a1_0 a1_1))) else (maquettelaw05_PrefixCovers_1.j0 k true a0_0 a0_1 a1_0 a1_1))) = some r := h
 clear h
 have HC3 := Aside0.mk H
 clear H
 go_enter Tryd.func22, Tryd.ntmps22
 go_upto_region 1 with (first | ((with_reducible refine gate_dst (N := 2) rfl ?_); refine bx 2 (cs := #[.int .u32 a0_0, .int .i64 a0_1]) (t := 24) (h := ?_); intro gb103 hg w4 hbox hb; have BK103 := Aside0.mk hbox; have GW103 : Aside0 (w.heap.size ≤ gb103) := bge hg; have GE103 : Aside0 (w.heap.size ≤ gb103) := bge hg; replace HB := bst hb; clear hb hbox hg) | ((with_reducible refine gate_dst (N := 3) rfl ?_); refine bx 3 (cs := #[.int .u32 a1_0, .int .i64 a1_1]) (t := 24) (h := ?_); intro gb104 hg w5 hbox hb; have BK104 := Aside0.mk hbox; have GW104 : Aside0 (w.heap.size ≤ gb104) := bge hg; have GE104 : Aside0 (w.heap.size ≤ gb104) := bge hg; have NB103_104 := bne BK103 hg; have NB104_103 := bnf BK103 hg; replace BK103 := bkb BK103 hb; replace HB := bst hb; clear hb hbox hg))
 repeat (go_quiet (first | ((with_reducible refine gate_dst (N := 2) rfl ?_); refine bx 2 (cs := #[.int .u32 a0_0, .int .i64 a0_1]) (t := 24) (h := ?_); intro gb103 hg w4 hbox hb; have BK103 := Aside0.mk hbox; have GW103 : Aside0 (w.heap.size ≤ gb103) := bge hg; have GE103 : Aside0 (w.heap.size ≤ gb103) := bge hg; replace HB := bst hb; clear hb hbox hg) | ((with_reducible refine gate_dst (N := 3) rfl ?_); refine bx 3 (cs := #[.int .u32 a1_0, .int .i64 a1_1]) (t := 24) (h := ?_); intro gb104 hg w5 hbox hb; have BK104 := Aside0.mk hbox; have GW104 : Aside0 (w.heap.size ≤ gb104) := bge hg; have GE104 : Aside0 (w.heap.size ≤ gb104) := bge hg; have NB103_104 := bne BK103 hg; have NB104_103 := bnf BK103 hg; replace BK103 := bkb BK103 hb; replace HB := bst hb; clear hb hbox hg)); go_upto_region 1 with (first | ((with_reducible refine gate_dst (N := 2) rfl ?_); refine bx 2 (cs := #[.int .u32 a0_0, .int .i64 a0_1]) (t := 24) (h := ?_); intro gb103 hg w4 hbox hb; have BK103 := Aside0.mk hbox; have GW103 : Aside0 (w.heap.size ≤ gb103) := bge hg; have GE103 : Aside0 (w.heap.size ≤ gb103) := bge hg; replace HB := bst hb; clear hb hbox hg) | ((with_reducible refine gate_dst (N := 3) rfl ?_); refine bx 3 (cs := #[.int .u32 a1_0, .int .i64 a1_1]) (t := 24) (h := ?_); intro gb104 hg w5 hbox hb; have BK104 := Aside0.mk hbox; have GW104 : Aside0 (w.heap.size ≤ gb104) := bge hg; have GE104 : Aside0 (w.heap.size ≤ gb104) := bge hg; have NB103_104 := bne BK103 hg; have NB104_103 := bnf BK103 hg; replace BK103 := bkb BK103 hb; replace HB := bst hb; clear hb hbox hg)))
 (try simp only [Act.put, List.setIfInBounds_toArray, List.set_cons_zero, List.set_cons_succ])
 go_cut [20] (fun v20 wc => ∃ (kq : Nat) (x20_2 : Bool), v20 = .bool x20_2 ∧ Aside0 (maquettelaw05_PrefixCovers_1.j0 kq x20_2 a0_0 a0_1 a1_0 a1_1 = some r) ∧ Aside0 (kq ≤ k) ∧ Aside0 (wc.heap[gb103]? = some (.cells #[.int .u32 a0_0, .int .i64 a0_1] 24 (0, 0))) ∧ Aside0 (wc.heap[gb104]? = some (.cells #[.int .u32 a1_0, .int .i64 a1_1] 24 (0, 0))) ∧ Aside0 (Below w.heap.size w wc))
 case first =>
  have H := HC3.out
  clear HC3
  replace H := Option.bind_eq_some_iff.mp H
  obtain ⟨t105, A60, H⟩ := H
  replace H : (if t105 = true then ((maquettelaw05_may.f k a1_0 a1_1).bind fun t106 => (if t106 = true then (maquettelaw05_PrefixCovers_1.j0 k (decide (a0_1 > a1_1)) a0_0 a0_1 a1_0 a1_1) else (maquettelaw05_PrefixCovers_1.j0 k true a0_0 a0_1 a1_0 a1_1))) else (maquettelaw05_PrefixCovers_1.j0 k true a0_0 a0_1 a1_0 a1_1)) = some r := H
  have A6 := Aside0.mk A60
  clear A60
  by_cases c7 : t105 = true
  ·subst c7
   have H1 : ((maquettelaw05_may.f k a1_0 a1_1).bind fun t106 => (if t106 = true then (maquettelaw05_PrefixCovers_1.j0 k (decide (a0_1 > a1_1)) a0_0 a0_1 a1_0 a1_1) else (maquettelaw05_PrefixCovers_1.j0 k true a0_0 a0_1 a1_0 a1_1))) = some r := by rw [if_pos rfl] at H; exact H
   clear H
   have H := H1
   clear H1
   replace H := Option.bind_eq_some_iff.mp H
   obtain ⟨t106, A80, H⟩ := H
   replace H : (if t106 = true then (maquettelaw05_PrefixCovers_1.j0 k (decide (a0_1 > a1_1)) a0_0 a0_1 a1_0 a1_1) else (maquettelaw05_PrefixCovers_1.j0 k true a0_0 a0_1 a1_0 a1_1)) = some r := H
   have A8 := Aside0.mk A80
   clear A80
   by_cases c9 : t106 = true
   ·subst c9
    have H1 : (maquettelaw05_PrefixCovers_1.j0 k (decide (a0_1 > a1_1)) a0_0 a0_1 a1_0 a1_1) = some r := by rw [if_pos rfl] at H; exact H
    clear H
    have H := H1
    clear H1
    have H' := Aside0.mk H
    clear H
    have hnb10 := NB103_104.out
    have hnc10 := NB104_103.out
    obtain ⟨hcz11_0, hcz11_1, hfz11_0, hfz11_1⟩ := bc2 BK103
    go_wp2_with (first | (go_at_call 17; (with_reducible refine (maquettelaw05_may.calls k a0_0 a0_1 true _ A6.out).mono ?_); rintro e w12 ⟨rfl, hb⟩; replace BK103 := bkb BK103 hb; replace BK104 := bkb BK104 hb; replace HB := bst hb; (try clear hb); (try clear hb2); (try clear hk); (try clear hi); obtain ⟨hcz13_0, hcz13_1, hfz13_0, hfz13_1⟩ := bc2 BK104) | (go_at_call 17; (with_reducible refine (maquettelaw05_may.calls k a1_0 a1_1 true _ A8.out).mono ?_); rintro e w14 ⟨rfl, hb⟩; replace BK103 := bkb BK103 hb; replace BK104 := bkb BK104 hb; replace HB := bst hb; (try clear hb); (try clear hb2); (try clear hk); (try clear hi); obtain ⟨hcz15_0, hcz15_1, hfz15_0, hfz15_1⟩ := bc2 BK103; obtain ⟨hcz16_0, hcz16_1, hfz16_0, hfz16_1⟩ := bc2 BK104))
    repeat (go_quiet (first | (go_at_call 17; (with_reducible refine (maquettelaw05_may.calls k a0_0 a0_1 true _ A6.out).mono ?_); rintro e w12 ⟨rfl, hb⟩; replace BK103 := bkb BK103 hb; replace BK104 := bkb BK104 hb; replace HB := bst hb; (try clear hb); (try clear hb2); (try clear hk); (try clear hi); obtain ⟨hcz13_0, hcz13_1, hfz13_0, hfz13_1⟩ := bc2 BK104) | (go_at_call 17; (with_reducible refine (maquettelaw05_may.calls k a1_0 a1_1 true _ A8.out).mono ?_); rintro e w14 ⟨rfl, hb⟩; replace BK103 := bkb BK103 hb; replace BK104 := bkb BK104 hb; replace HB := bst hb; (try clear hb); (try clear hb2); (try clear hk); (try clear hi); obtain ⟨hcz15_0, hcz15_1, hfz15_0, hfz15_1⟩ := bc2 BK103; obtain ⟨hcz16_0, hcz16_1, hfz16_0, hfz16_1⟩ := bc2 BK104)); try go_wp2_with (first | (go_at_call 17; (with_reducible refine (maquettelaw05_may.calls k a0_0 a0_1 true _ A6.out).mono ?_); rintro e w12 ⟨rfl, hb⟩; replace BK103 := bkb BK103 hb; replace BK104 := bkb BK104 hb; replace HB := bst hb; (try clear hb); (try clear hb2); (try clear hk); (try clear hi); obtain ⟨hcz13_0, hcz13_1, hfz13_0, hfz13_1⟩ := bc2 BK104) | (go_at_call 17; (with_reducible refine (maquettelaw05_may.calls k a1_0 a1_1 true _ A8.out).mono ?_); rintro e w14 ⟨rfl, hb⟩; replace BK103 := bkb BK103 hb; replace BK104 := bkb BK104 hb; replace HB := bst hb; (try clear hb); (try clear hb2); (try clear hk); (try clear hi); obtain ⟨hcz15_0, hcz15_1, hfz15_0, hfz15_1⟩ := bc2 BK103; obtain ⟨hcz16_0, hcz16_1, hfz16_0, hfz16_1⟩ := bc2 BK104)))
    go_meet
    case rel => exact ⟨_, (decide (a0_1 > a1_1)), (by first | rfl | (simp; done) | (simp [*]; done)), H', ⟨by first | omega | exact Nat.le_refl _⟩, ⟨bkq BK103⟩, ⟨bkq BK104⟩, ⟨by repeat (first | (with_reducible first | exact HB.out | apply below_alloc | apply pw_below_drewN | apply below_drew1 | refine below_set ?_ GE103.out | refine below_set ?_ GE104.out) | exact HB.out)⟩⟩
   ·replace c9 := Bool.eq_false_iff.mpr c9
    subst c9
    have H1 : (maquettelaw05_PrefixCovers_1.j0 k true a0_0 a0_1 a1_0 a1_1) = some r := by rw [if_neg (show ¬ (false = true) by decide)] at H; exact H
    clear H
    have H := H1
    clear H1
    have H' := Aside0.mk H
    clear H
    have hnb17 := NB103_104.out
    have hnc17 := NB104_103.out
    obtain ⟨hcz18_0, hcz18_1, hfz18_0, hfz18_1⟩ := bc2 BK103
    go_wp2_with (first | (go_at_call 17; (with_reducible refine (maquettelaw05_may.calls k a0_0 a0_1 true _ A6.out).mono ?_); rintro e w19 ⟨rfl, hb⟩; replace BK103 := bkb BK103 hb; replace BK104 := bkb BK104 hb; replace HB := bst hb; (try clear hb); (try clear hb2); (try clear hk); (try clear hi); obtain ⟨hcz20_0, hcz20_1, hfz20_0, hfz20_1⟩ := bc2 BK104) | (go_at_call 17; (with_reducible refine (maquettelaw05_may.calls k a1_0 a1_1 false _ A8.out).mono ?_); rintro e w21 ⟨rfl, hb⟩; replace BK103 := bkb BK103 hb; replace BK104 := bkb BK104 hb; replace HB := bst hb; (try clear hb); (try clear hb2); (try clear hk); (try clear hi)))
    repeat (go_quiet (first | (go_at_call 17; (with_reducible refine (maquettelaw05_may.calls k a0_0 a0_1 true _ A6.out).mono ?_); rintro e w19 ⟨rfl, hb⟩; replace BK103 := bkb BK103 hb; replace BK104 := bkb BK104 hb; replace HB := bst hb; (try clear hb); (try clear hb2); (try clear hk); (try clear hi); obtain ⟨hcz20_0, hcz20_1, hfz20_0, hfz20_1⟩ := bc2 BK104) | (go_at_call 17; (with_reducible refine (maquettelaw05_may.calls k a1_0 a1_1 false _ A8.out).mono ?_); rintro e w21 ⟨rfl, hb⟩; replace BK103 := bkb BK103 hb; replace BK104 := bkb BK104 hb; replace HB := bst hb; (try clear hb); (try clear hb2); (try clear hk); (try clear hi))); try go_wp2_with (first | (go_at_call 17; (with_reducible refine (maquettelaw05_may.calls k a0_0 a0_1 true _ A6.out).mono ?_); rintro e w19 ⟨rfl, hb⟩; replace BK103 := bkb BK103 hb; replace BK104 := bkb BK104 hb; replace HB := bst hb; (try clear hb); (try clear hb2); (try clear hk); (try clear hi); obtain ⟨hcz20_0, hcz20_1, hfz20_0, hfz20_1⟩ := bc2 BK104) | (go_at_call 17; (with_reducible refine (maquettelaw05_may.calls k a1_0 a1_1 false _ A8.out).mono ?_); rintro e w21 ⟨rfl, hb⟩; replace BK103 := bkb BK103 hb; replace BK104 := bkb BK104 hb; replace HB := bst hb; (try clear hb); (try clear hb2); (try clear hk); (try clear hi))))
    go_meet
    case rel => exact ⟨_, (true), (by first | rfl | (simp; done) | (simp [*]; done)), H', ⟨by first | omega | exact Nat.le_refl _⟩, ⟨bkq BK103⟩, ⟨bkq BK104⟩, ⟨by repeat (first | (with_reducible first | exact HB.out | apply below_alloc | apply pw_below_drewN | apply below_drew1 | refine below_set ?_ GE103.out | refine below_set ?_ GE104.out) | exact HB.out)⟩⟩
  ·replace c7 := Bool.eq_false_iff.mpr c7
   subst c7
   have H1 : (maquettelaw05_PrefixCovers_1.j0 k true a0_0 a0_1 a1_0 a1_1) = some r := by rw [if_neg (show ¬ (false = true) by decide)] at H; exact H
   clear H
   have H := H1
   clear H1
   have H' := Aside0.mk H
   clear H
   have hnb22 := NB103_104.out
   have hnc22 := NB104_103.out
   obtain ⟨hcz23_0, hcz23_1, hfz23_0, hfz23_1⟩ := bc2 BK103
   go_wp2_with (first | (go_at_call 17; (with_reducible refine (maquettelaw05_may.calls k a0_0 a0_1 false _ A6.out).mono ?_); rintro e w24 ⟨rfl, hb⟩; replace BK103 := bkb BK103 hb; replace BK104 := bkb BK104 hb; replace HB := bst hb; (try clear hb); (try clear hb2); (try clear hk); (try clear hi)))
   repeat (go_quiet (first | (go_at_call 17; (with_reducible refine (maquettelaw05_may.calls k a0_0 a0_1 false _ A6.out).mono ?_); rintro e w24 ⟨rfl, hb⟩; replace BK103 := bkb BK103 hb; replace BK104 := bkb BK104 hb; replace HB := bst hb; (try clear hb); (try clear hb2); (try clear hk); (try clear hi))); try go_wp2_with (first | (go_at_call 17; (with_reducible refine (maquettelaw05_may.calls k a0_0 a0_1 false _ A6.out).mono ?_); rintro e w24 ⟨rfl, hb⟩; replace BK103 := bkb BK103 hb; replace BK104 := bkb BK104 hb; replace HB := bst hb; (try clear hb); (try clear hb2); (try clear hk); (try clear hi))))
   go_meet
   case rel => exact ⟨_, (true), (by first | rfl | (simp; done) | (simp [*]; done)), H', ⟨by first | omega | exact Nat.le_refl _⟩, ⟨bkq BK103⟩, ⟨bkq BK104⟩, ⟨by repeat (first | (with_reducible first | exact HB.out | apply below_alloc | apply pw_below_drewN | apply below_drew1 | refine below_set ?_ GE103.out | refine below_set ?_ GE104.out) | exact HB.out)⟩⟩
 case rest =>
  clear HC3
  try clear c1
  try clear c2
  try clear p2
  try clear c7
  try clear c9
  try clear c10
  try clear c17
  try clear c22
  try clear hcz11_0 hcz11_1 hfz11_0 hfz11_1
  try clear hcz13_0 hcz13_1 hfz13_0 hfz13_1
  try clear hcz15_0 hcz15_1 hfz15_0 hfz15_1
  try clear hcz16_0 hcz16_1 hfz16_0 hfz16_1
  try clear hcz18_0 hcz18_1 hfz18_0 hfz18_1
  try clear hcz20_0 hcz20_1 hfz20_0 hfz20_1
  try clear hcz23_0 hcz23_1 hfz23_0 hfz23_1
  obtain ⟨kq, x20_2, rfl, HA, HJ2, BK103, BK104, HB⟩ := hcut
  cases kq with
  | zero => exact absurd HA.out (by simp [maquettelaw05_PrefixCovers_1.j0])
  | succ kj2 =>
   have H := HA.out
   clear HA
   simp only [maquettelaw05_PrefixCovers_1.j0] at H
   by_cases c25 : x20_2 = true
   ·subst c25
    have H1 : (some false) = some r := by rw [if_pos rfl] at H; exact H
    clear H
    have H := H1
    clear H1
    obtain rfl := Option.some.inj H
    go_wp2
    repeat (go_quiet (fail); try go_wp2)
    go_ret
    exact ⟨by first | rfl | (simp [errW_none, errW_some] <;> rfl) | (simp [*, errW_none, errW_some] <;> rfl), by repeat (first | (with_reducible first | exact HB.out | apply below_alloc | apply pw_below_drewN | apply below_drew1 | refine below_set ?_ GE103.out | refine below_set ?_ GE104.out) | exact HB.out)⟩
   ·replace c25 := Bool.eq_false_iff.mpr c25
    subst c25
    have H1 : (maquettelaw05_PrefixCovers_1.l0 kj2 0 a0_0 a0_1 a1_0 a1_1) = some r := by rw [if_neg (show ¬ (false = true) by decide)] at H; exact H
    clear H
    have H := H1
    clear H1
    have H' := Aside0.mk H
    clear H
    go_wp2
    repeat (go_quiet (fail); try go_wp2)
    go_loopg [5] kj2 (fun kq v5 w' => ∃ (x5_2 : Int), v5 = .int .i64 x5_2 ∧ Aside0 (maquettelaw05_PrefixCovers_1.l0 kq x5_2 a0_0 a0_1 a1_0 a1_1 = some r) ∧ Aside0 (kq ≤ kj2) ∧ Aside0 (w'.heap[gb103]? = some (.cells #[.int .u32 a0_0, .int .i64 a0_1] 24 (0, 0))) ∧ Aside0 (w'.heap[gb104]? = some (.cells #[.int .u32 a1_0, .int .i64 a1_1] 24 (0, 0))) ∧ Aside0 (Below w.heap.size w w'))
    case atStart => exact ⟨(0), (by first | rfl | (simp; done) | (simp [*]; done)), H', ⟨Nat.le_refl _⟩, ⟨bkq BK103⟩, ⟨bkq BK104⟩, ⟨by repeat (first | (with_reducible first | exact HB.out | apply below_alloc | apply pw_below_drewN | apply below_drew1 | refine below_set ?_ GE103.out | refine below_set ?_ GE104.out) | exact HB.out)⟩⟩
    case round =>
     clear H'
     try clear c1
     try clear c2
     try clear p2 p2
     try clear c7
     try clear c9
     try clear c10
     try clear c17
     try clear c22
     try clear c25
     try clear hcz11_0 hcz11_1 hfz11_0 hfz11_1
     try clear hcz13_0 hcz13_1 hfz13_0 hfz13_1
     try clear hcz15_0 hcz15_1 hfz15_0 hfz15_1
     try clear hcz16_0 hcz16_1 hfz16_0 hfz16_1
     try clear hcz18_0 hcz18_1 hfz18_0 hfz18_1
     try clear hcz20_0 hcz20_1 hfz20_0 hfz20_1
     try clear hcz23_0 hcz23_1 hfz23_0 hfz23_1
     obtain ⟨x5_2, rfl, HA, HK2, BK103, BK104, HB⟩ := hrel
     cases gk with
     | zero => exact absurd HA.out (by simp [maquettelaw05_PrefixCovers_1.l0])
     | succ k2 =>
      have H := HA.out
      clear HA
      simp only [maquettelaw05_PrefixCovers_1.l0] at H
      by_cases c26 : x5_2 < a0_1
      ·rw [if_pos c26] at H
       have c26b0 : decide (x5_2 < a0_1) = true := decide_eq_true c26
       clear c26
       replace H := Option.bind_eq_some_iff.mp H
       obtain ⟨t107, A270, H⟩ := H
       replace H : ((maquettelaw05_bit.f a1_0 x5_2).bind fun t108 => (if t107 = t108 then (maquettelaw05_PrefixCovers_1.l0 k2 (wrap64 (x5_2 + 1)) a0_0 a0_1 a1_0 a1_1) else (some false))) = some r := H
       have A27 := Aside0.mk A270
       clear A270
       replace H := Option.bind_eq_some_iff.mp H
       obtain ⟨t108, A280, H⟩ := H
       replace H : (if t107 = t108 then (maquettelaw05_PrefixCovers_1.l0 k2 (wrap64 (x5_2 + 1)) a0_0 a0_1 a1_0 a1_1) else (some false)) = some r := H
       have A28 := Aside0.mk A280
       clear A280
       by_cases c29 : t107 = t108
       ·rw [if_pos c29] at H
        have c29b0 : (t107 == t108) = true := beq_iff_eq.mpr c29
        have c29b1 : (t107 != t108) = false := bne_eq_false_iff_eq.mpr c29
        clear c29
        have H' := Aside0.mk H
        clear H
        have hnb30 := NB103_104.out
        have hnc30 := NB104_103.out
        obtain ⟨hcz31_0, hcz31_1, hfz31_0, hfz31_1⟩ := bc2 BK103
        go_wp2_with (first | (go_at_call 23; (with_reducible refine (maquettelaw05_bit.calls a0_0 x5_2 t107 _ A27.out).mono ?_); rintro e w' ⟨rfl, ⟨nd, rfl⟩⟩; (try first | exact ⟨rfl, _, World.drewN_drewN _ _ _⟩ | exact ⟨rfl, _, Eq.trans (World.drewN_drewN _ _ _) (congrArg (World.drewN _) (Nat.add_assoc _ _ _))⟩); obtain ⟨hcz32_0, hcz32_1, hfz32_0, hfz32_1⟩ := bc2 BK104) | (go_at_call 23; (with_reducible refine (maquettelaw05_bit.calls a1_0 x5_2 t108 _ A28.out).mono ?_); rintro e w' ⟨rfl, ⟨nd, rfl⟩⟩; (try first | exact ⟨rfl, _, World.drewN_drewN _ _ _⟩ | exact ⟨rfl, _, Eq.trans (World.drewN_drewN _ _ _) (congrArg (World.drewN _) (Nat.add_assoc _ _ _))⟩)))
        repeat (go_quiet (first | (go_at_call 23; (with_reducible refine (maquettelaw05_bit.calls a0_0 x5_2 t107 _ A27.out).mono ?_); rintro e w' ⟨rfl, ⟨nd, rfl⟩⟩; (try first | exact ⟨rfl, _, World.drewN_drewN _ _ _⟩ | exact ⟨rfl, _, Eq.trans (World.drewN_drewN _ _ _) (congrArg (World.drewN _) (Nat.add_assoc _ _ _))⟩); obtain ⟨hcz32_0, hcz32_1, hfz32_0, hfz32_1⟩ := bc2 BK104) | (go_at_call 23; (with_reducible refine (maquettelaw05_bit.calls a1_0 x5_2 t108 _ A28.out).mono ?_); rintro e w' ⟨rfl, ⟨nd, rfl⟩⟩; (try first | exact ⟨rfl, _, World.drewN_drewN _ _ _⟩ | exact ⟨rfl, _, Eq.trans (World.drewN_drewN _ _ _) (congrArg (World.drewN _) (Nat.add_assoc _ _ _))⟩))); try go_wp2_with (first | (go_at_call 23; (with_reducible refine (maquettelaw05_bit.calls a0_0 x5_2 t107 _ A27.out).mono ?_); rintro e w' ⟨rfl, ⟨nd, rfl⟩⟩; (try first | exact ⟨rfl, _, World.drewN_drewN _ _ _⟩ | exact ⟨rfl, _, Eq.trans (World.drewN_drewN _ _ _) (congrArg (World.drewN _) (Nat.add_assoc _ _ _))⟩); obtain ⟨hcz32_0, hcz32_1, hfz32_0, hfz32_1⟩ := bc2 BK104) | (go_at_call 23; (with_reducible refine (maquettelaw05_bit.calls a1_0 x5_2 t108 _ A28.out).mono ?_); rintro e w' ⟨rfl, ⟨nd, rfl⟩⟩; (try first | exact ⟨rfl, _, World.drewN_drewN _ _ _⟩ | exact ⟨rfl, _, Eq.trans (World.drewN_drewN _ _ _) (congrArg (World.drewN _) (Nat.add_assoc _ _ _))⟩))))
        go_roundg k2
        case measure => have := HJ2.out; have := HK2.out; omega
        case rel => exact ⟨(wrap64 (x5_2 + 1)), (by first | rfl | (simp; done) | (simp [*]; done)), H', ⟨by have := HJ2.out; have := HK2.out; omega⟩, ⟨bkq BK103⟩, ⟨bkq BK104⟩, ⟨by repeat (first | (with_reducible first | exact HB.out | apply below_alloc | apply pw_below_drewN | apply below_drew1 | refine below_set ?_ GE103.out | refine below_set ?_ GE104.out) | exact HB.out)⟩⟩
       ·rw [if_neg c29] at H
        have c29b0 : (t107 == t108) = false := beq_eq_false_iff_ne.mpr c29
        have c29b1 : (t107 != t108) = true := bne_iff_ne.mpr c29
        obtain rfl := Option.some.inj H
        have hnb33 := NB103_104.out
        have hnc33 := NB104_103.out
        obtain ⟨hcz34_0, hcz34_1, hfz34_0, hfz34_1⟩ := bc2 BK103
        go_wp2_with (first | (go_at_call 23; (with_reducible refine (maquettelaw05_bit.calls a0_0 x5_2 t107 _ A27.out).mono ?_); rintro e w' ⟨rfl, ⟨nd, rfl⟩⟩; (try first | exact ⟨rfl, _, World.drewN_drewN _ _ _⟩ | exact ⟨rfl, _, Eq.trans (World.drewN_drewN _ _ _) (congrArg (World.drewN _) (Nat.add_assoc _ _ _))⟩); obtain ⟨hcz35_0, hcz35_1, hfz35_0, hfz35_1⟩ := bc2 BK104) | (go_at_call 23; (with_reducible refine (maquettelaw05_bit.calls a1_0 x5_2 t108 _ A28.out).mono ?_); rintro e w' ⟨rfl, ⟨nd, rfl⟩⟩; (try first | exact ⟨rfl, _, World.drewN_drewN _ _ _⟩ | exact ⟨rfl, _, Eq.trans (World.drewN_drewN _ _ _) (congrArg (World.drewN _) (Nat.add_assoc _ _ _))⟩)))
        repeat (go_quiet (first | (go_at_call 23; (with_reducible refine (maquettelaw05_bit.calls a0_0 x5_2 t107 _ A27.out).mono ?_); rintro e w' ⟨rfl, ⟨nd, rfl⟩⟩; (try first | exact ⟨rfl, _, World.drewN_drewN _ _ _⟩ | exact ⟨rfl, _, Eq.trans (World.drewN_drewN _ _ _) (congrArg (World.drewN _) (Nat.add_assoc _ _ _))⟩); obtain ⟨hcz35_0, hcz35_1, hfz35_0, hfz35_1⟩ := bc2 BK104) | (go_at_call 23; (with_reducible refine (maquettelaw05_bit.calls a1_0 x5_2 t108 _ A28.out).mono ?_); rintro e w' ⟨rfl, ⟨nd, rfl⟩⟩; (try first | exact ⟨rfl, _, World.drewN_drewN _ _ _⟩ | exact ⟨rfl, _, Eq.trans (World.drewN_drewN _ _ _) (congrArg (World.drewN _) (Nat.add_assoc _ _ _))⟩))); try go_wp2_with (first | (go_at_call 23; (with_reducible refine (maquettelaw05_bit.calls a0_0 x5_2 t107 _ A27.out).mono ?_); rintro e w' ⟨rfl, ⟨nd, rfl⟩⟩; (try first | exact ⟨rfl, _, World.drewN_drewN _ _ _⟩ | exact ⟨rfl, _, Eq.trans (World.drewN_drewN _ _ _) (congrArg (World.drewN _) (Nat.add_assoc _ _ _))⟩); obtain ⟨hcz35_0, hcz35_1, hfz35_0, hfz35_1⟩ := bc2 BK104) | (go_at_call 23; (with_reducible refine (maquettelaw05_bit.calls a1_0 x5_2 t108 _ A28.out).mono ?_); rintro e w' ⟨rfl, ⟨nd, rfl⟩⟩; (try first | exact ⟨rfl, _, World.drewN_drewN _ _ _⟩ | exact ⟨rfl, _, Eq.trans (World.drewN_drewN _ _ _) (congrArg (World.drewN _) (Nat.add_assoc _ _ _))⟩))))
        go_ret
        exact ⟨by first | rfl | (simp [errW_none, errW_some] <;> rfl) | (simp [*, errW_none, errW_some] <;> rfl), by repeat (first | (with_reducible first | exact HB.out | apply below_alloc | apply pw_below_drewN | apply below_drew1 | refine below_set ?_ GE103.out | refine below_set ?_ GE104.out) | exact HB.out)⟩
      ·rw [if_neg c26] at H
       have c26b0 : decide (x5_2 < a0_1) = false := decide_eq_false c26
       clear c26
       obtain rfl := Option.some.inj H
       have hnb36 := NB103_104.out
       have hnc36 := NB104_103.out
       obtain ⟨hcz37_0, hcz37_1, hfz37_0, hfz37_1⟩ := bc2 BK103
       go_wp2
       repeat (go_quiet (fail); try go_wp2)
       go_ret
       exact ⟨by first | rfl | (simp [errW_none, errW_some] <;> rfl) | (simp [*, errW_none, errW_some] <;> rfl), by repeat (first | (with_reducible first | exact HB.out | apply below_alloc | apply pw_below_drewN | apply below_drew1 | refine below_set ?_ GE103.out | refine below_set ?_ GE104.out) | exact HB.out)⟩

end Go.Proofs.YtkbjjamaneiijaaDoor.PCov
