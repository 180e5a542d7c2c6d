-- Written by wip/xprint.py of this work: the printer of the kit, with contracts of this work beside it, shortened.
import Derived.Test.YtbclogifkifaaaaDoorShort
import Derived.Test.YtbclogifkifaaaaDoorPPrex0
import Derived.Test.YtbclogifkifaaaaDoorPPrex1
import Derived.Test.YtbclogifkifaaaaDoorPPrex7
import Derived.Test.YtbclogifkifaaaaDoorPPrex10
namespace Go.Proofs.YtbclogifkifaaaaDoor.PPre
open Go.RowKit Go.Proofs.YtbclogifkifaaaaDoor.Short Go.Proofs.YtbclogifkifaaaaDoorW.PrintWords Go.Proofs.YtbclogifkifaaaaDoorW.PrintLast Go.Proofs.YtbclogifkifaaaaDoorW.PrintMore
attribute [local go_sem] max2_int min2_int max_two min_two max_three min_three max_four min_four   -- for this text's walks alone
set_option linter.unusedVariables false
set_option linter.unusedSimpArgs false

attribute [local go_sem high] eqA27
/-! ### maquettelaw05_awake: function 4 -/
def maquettelaw05_awake.f (k : Nat)  : Option (Bool) := (prefix_Parse.f k (⟨#[49, 48, 46, 49, 46, 48, 46, 48, 47, 49, 54]⟩ : ByteArray)).bind fun bt125 => (if bt125.2.2 = true then (if (bt125.1 == 167837696 && (bt125.2.1 == 16)) = true then ((prefix_Text.f k bt125.1 bt125.2.1).bind fun t129 => (some (t129.toList == ([49, 48, 46, 49, 46, 48, 46, 48, 47, 49, 54] : List UInt8)))) else (some false)) else (some false))
theorem maquettelaw05_awake.mono : ∀ k, LeO (maquettelaw05_awake.f k ) (maquettelaw05_awake.f (k + 1) ) := by
 intro  k
 unfold maquettelaw05_awake.f
 repeat' first
   | (with_reducible exact prefix_Parse.mono _ _)
   | (with_reducible exact prefix_Text.mono _ _ _)
   | (with_reducible exact LeO.refl _)
   | (with_reducible exact LeO.none _)
   | (with_reducible refine LeO.ite ?_ ?_)
   | (with_reducible refine LeO.bind ?_ (fun _ => ?_))
   | exact prefix_Parse.mono _ _
   | exact prefix_Text.mono _ _ _
   | exact LeO.none _
   | refine LeO.ite ?_ ?_
   | refine LeO.bind ?_ (fun _ => ?_)
set_option maxHeartbeats 8000000 in
set_option maxRecDepth 100000 in
theorem maquettelaw05_awake.calls (k : Nat)  (r : Bool) (w : World) (h : maquettelaw05_awake.f k  = some r) (hInv : Go.Proofs.YtbclogifkifaaaaDoor.Inv.Inv w) :
  Calls Tryd.prog 4 #[] w fun e w' => e = .returned (.bool r) ∧ Below w.heap.size w w' := by
 have hu27 := Tryd.underlying27
 have HB := Aside0.mk (Below.refl w.heap.size w)
 have H : ((prefix_Parse.f k (⟨#[49, 48, 46, 49, 46, 48, 46, 48, 47, 49, 54]⟩ : ByteArray)).bind fun bt125 => (if bt125.2.2 = true then (if (bt125.1 == 167837696 && (bt125.2.1 == 16)) = true then ((prefix_Text.f k bt125.1 bt125.2.1).bind fun t129 => (some (t129.toList == ([49, 48, 46, 49, 46, 48, 46, 48, 47, 49, 54] : List UInt8)))) else (some false)) else (some false))) = some r := h
 clear h
 replace H := Option.bind_eq_some_iff.mp H
 obtain ⟨⟨t125, t126, t127⟩, A10, H⟩ := H
 replace H : (if t127 = true then (if (t125 == 167837696 && (t126 == 16)) = true then ((prefix_Text.f k t125 t126).bind fun t129 => (some (t129.toList == ([49, 48, 46, 49, 46, 48, 46, 48, 47, 49, 54] : List UInt8)))) else (some false)) else (some false)) = some r := H
 have A1 := Aside0.mk A10
 clear A10
 by_cases c2 : t127 = true
 ·subst c2
  have H1 : (if (t125 == 167837696 && (t126 == 16)) = true then ((prefix_Text.f k t125 t126).bind fun t129 => (some (t129.toList == ([49, 48, 46, 49, 46, 48, 46, 48, 47, 49, 54] : List UInt8)))) else (some false)) = some r := by rw [if_pos rfl] at H; exact H
  clear H
  have H := H1
  clear H1
  by_cases c3 : (t125 == 167837696 && (t126 == 16)) = true
  ·rw [if_pos c3] at H
   have c3b0 : (t125 == 167837696 && (t126 == 16)) = true := c3
   (try (have c3b1 : decide (t125 = 167837696 && (t126 == 16)) = true := by simpa using c3))
   (try (have c3b2 : (t125 == 167837696 && (t126 == 16)) = true := by simpa using c3))
   clear c3
   replace H := Option.bind_eq_some_iff.mp H
   obtain ⟨t129, A40, H⟩ := H
   replace H : (some (t129.toList == ([49, 48, 46, 49, 46, 48, 46, 48, 47, 49, 54] : List UInt8))) = some r := H
   have A4 := Aside0.mk A40
   clear A40
   obtain rfl := Option.some.inj H
   go_enter Tryd.func4, Tryd.ntmps4
   go_wp2_with (first | ((with_reducible refine gate_dst (N := 4) rfl ?_); refine gl (some 4) Tryd.func7 #[.string (⟨#[49, 48, 46, 49, 46, 48, 46, 48, 47, 49, 54]⟩ : ByteArray)] ?_; (with_reducible refine (prefix_Parse.calls k (⟨#[49, 48, 46, 49, 46, 48, 46, 48, 47, 49, 54]⟩ : ByteArray) t125 t126 true _ A1.out (Go.Proofs.YtbclogifkifaaaaDoor.Inv.ivb hInv)).mono ?_); rintro e w5 ⟨rfl, hb⟩; refine ⟨_, rfl, ?_⟩; replace HB := bst hb; (try clear hb); (try clear hb2); (try clear hk); (try clear hi)) | ((with_reducible refine gate_dst (N := 1) rfl ?_); refine bx 1 (cs := #[.int .u32 0, .int .i64 0]) (t := 27) (h := ?_); intro gb128 hg w6 hbox hb; have BK128 := Aside0.mk hbox; have GW128 : Aside0 (w.heap.size ≤ gb128) := bge hg; have GE128 : Aside0 (w.heap.size ≤ gb128) := bge hg; replace HB := bst hb; clear hb hbox hg; obtain ⟨hcz7_0, hcz7_1, hfz7_0, hfz7_1⟩ := bc2 BK128) | (go_at_call 9; (with_reducible refine (prefix_Text.calls k t125 t126 t129 _ A4.out (Go.Proofs.YtbclogifkifaaaaDoor.Inv.ivb hInv)).mono ?_); rintro e w8 ⟨rfl, hb⟩; replace BK128 := Aside0.mk (blk_below (g := gb128) (o := .cells #[.int .u32 t125, .int .i64 t126] 27 (0, 0)) (bkp BK128) hb); replace HB := bst hb; (try clear hb); (try clear hb2); (try clear hk); (try clear hi)))
   go_ret
   exact ⟨by first | rfl | (simp [errW_none, errW_some] <;> rfl) | (simp [*, errW_none, errW_some] <;> rfl), by repeat (first | (with_reducible first | exact HB.out | apply below_alloc | apply pw_below_drewN | apply below_drew1 | refine below_set ?_ GE128.out) | exact HB.out)⟩
  ·rw [if_neg c3] at H
   have c3b0 : (t125 == 167837696 && (t126 == 16)) = false := by simpa using c3
   (try (have c3b1 : decide (t125 = 167837696 && (t126 == 16)) = false := by simpa using c3))
   (try (have c3b2 : (t125 == 167837696 && (t126 == 16)) = false := by simpa using c3))
   (try (have c3b3 : ¬ (t125 = 167837696 && (t126 == 16)) := by simpa using c3))
   clear c3
   obtain rfl := Option.some.inj H
   go_enter Tryd.func4, Tryd.ntmps4
   go_wp2_with (first | ((with_reducible refine gate_dst (N := 4) rfl ?_); refine gl (some 4) Tryd.func7 #[.string (⟨#[49, 48, 46, 49, 46, 48, 46, 48, 47, 49, 54]⟩ : ByteArray)] ?_; (with_reducible refine (prefix_Parse.calls k (⟨#[49, 48, 46, 49, 46, 48, 46, 48, 47, 49, 54]⟩ : ByteArray) t125 t126 true _ A1.out (Go.Proofs.YtbclogifkifaaaaDoor.Inv.ivb hInv)).mono ?_); rintro e w9 ⟨rfl, hb⟩; refine ⟨_, rfl, ?_⟩; replace HB := bst hb; (try clear hb); (try clear hb2); (try clear hk); (try clear hi)) | ((with_reducible refine gate_dst (N := 1) rfl ?_); refine bx 1 (cs := #[.int .u32 0, .int .i64 0]) (t := 27) (h := ?_); intro gb128 hg w10 hbox hb; have BK128 := Aside0.mk hbox; have GW128 : Aside0 (w.heap.size ≤ gb128) := bge hg; have GE128 : Aside0 (w.heap.size ≤ gb128) := bge hg; replace HB := bst hb; clear hb hbox hg; obtain ⟨hcz11_0, hcz11_1, hfz11_0, hfz11_1⟩ := bc2 BK128))
   go_ret
   exact ⟨by first | rfl | (simp [errW_none, errW_some] <;> rfl) | (simp [*, errW_none, errW_some] <;> rfl), by repeat (first | (with_reducible first | exact HB.out | apply below_alloc | apply pw_below_drewN | apply below_drew1 | refine below_set ?_ GE128.out) | exact HB.out)⟩
 ·replace c2 := Bool.eq_false_iff.mpr c2
  subst c2
  have H1 : (some false) = some r := by rw [if_neg (show ¬ (false = true) by decide)] at H; exact H
  clear H
  have H := H1
  clear H1
  obtain rfl := Option.some.inj H
  go_enter Tryd.func4, Tryd.ntmps4
  go_wp2_with (first | ((with_reducible refine gate_dst (N := 4) rfl ?_); refine gl (some 4) Tryd.func7 #[.string (⟨#[49, 48, 46, 49, 46, 48, 46, 48, 47, 49, 54]⟩ : ByteArray)] ?_; (with_reducible refine (prefix_Parse.calls k (⟨#[49, 48, 46, 49, 46, 48, 46, 48, 47, 49, 54]⟩ : ByteArray) t125 t126 false _ A1.out (Go.Proofs.YtbclogifkifaaaaDoor.Inv.ivb hInv)).mono ?_); rintro e w12 ⟨rfl, hb⟩; refine ⟨_, rfl, ?_⟩; replace HB := bst hb; (try clear hb); (try clear hb2); (try clear hk); (try clear hi)) | ((with_reducible refine gate_dst (N := 1) rfl ?_); refine bx 1 (cs := #[.int .u32 0, .int .i64 0]) (t := 27) (h := ?_); intro gb128 hg w13 hbox hb; have BK128 := Aside0.mk hbox; have GW128 : Aside0 (w.heap.size ≤ gb128) := bge hg; have GE128 : Aside0 (w.heap.size ≤ gb128) := bge hg; replace HB := bst hb; clear hb hbox hg; obtain ⟨hcz14_0, hcz14_1, hfz14_0, hfz14_1⟩ := bc2 BK128))
  go_ret
  exact ⟨by first | rfl | (simp [errW_none, errW_some] <;> rfl) | (simp [*, errW_none, errW_some] <;> rfl), by repeat (first | (with_reducible first | exact HB.out | apply below_alloc | apply pw_below_drewN | apply below_drew1 | refine below_set ?_ GE128.out) | exact HB.out)⟩

end Go.Proofs.YtbclogifkifaaaaDoor.PPre
