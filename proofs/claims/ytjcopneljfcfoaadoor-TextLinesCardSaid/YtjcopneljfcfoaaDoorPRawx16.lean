-- Written by wip/xprint.py of this work: the printer of the kit, with contracts of this work beside it, shortened.
import Derived.Test.YtjcopneljfcfoaaDoorShort
import Derived.Test.YtjcopneljfcfoaaDoorPRawx0
import Derived.Test.YtjcopneljfcfoaaDoorPRawx5
import Derived.Test.YtjcopneljfcfoaaDoorPRawx13
import Derived.Test.YtjcopneljfcfoaaDoorPRawx14
import Derived.Test.YtjcopneljfcfoaaDoorPRawx15
namespace Go.Proofs.YtjcopneljfcfoaaDoor.PRaw
open Go.RowKit Go.Proofs.YtjcopneljfcfoaaDoor.Short Go.Proofs.YtjcopneljfcfoaaDoorW.PrintWords Go.Proofs.YtjcopneljfcfoaaDoorW.PrintLast Go.Proofs.YtjcopneljfcfoaaDoorW.PrintMore
attribute [local go_sem] max2_int min2_int max_two min_two max_three min_three max_four min_four   -- for this text's walks alone
set_option linter.unusedVariables false
set_option linter.unusedSimpArgs false

/-! ### maquettelaw07_line: function 22 -/
mutual
def maquettelaw07_line.j0 : Nat → ByteArray → ByteArray → Bool → Int → Int → Int → Int → Bool → Int → Int → Int → Int → Option (ByteArray)
 | 0, _, _, _, _, _, _, _, _, _, _, _, _ => none
 | k + 1, x3, x4, x130000, x130001, x130002, x130003, x130004, x130005, x130006, x130007, x130008, x130009 => if x130005 = true then (maquettelaw07_line.j1 k x3 (⟨#[32, 100, 114, 111, 112]⟩ : ByteArray) x130000 x130001 x130002 x130003 x130004 x130005 x130006 x130007 x130008 x130009) else (maquettelaw07_line.j1 k x3 x4 x130000 x130001 x130002 x130003 x130004 x130005 x130006 x130007 x130008 x130009)
def maquettelaw07_line.j1 : Nat → ByteArray → ByteArray → Bool → Int → Int → Int → Int → Bool → Int → Int → Int → Int → Option (ByteArray)
 | 0, _, _, _, _, _, _, _, _, _, _, _, _ => none
 | k + 1, x3, x4, x130000, x130001, x130002, x130003, x130004, x130005, x130006, x130007, x130008, x130009 => if 4 + x3.size ≤ 9223372036854775807 then ((maquettelaw07_tags.f k (⟨#[119, 105, 116, 104]⟩ : ByteArray) x130003).bind fun t131 => (if ((⟨#[9, 105, 102, 32]⟩ : ByteArray) ++ x3).size + t131.size ≤ 9223372036854775807 then ((maquettelaw07_tags.f k (⟨#[111, 117, 116]⟩ : ByteArray) x130004).bind fun t132 => (if (((⟨#[9, 105, 102, 32]⟩ : ByteArray) ++ x3) ++ t131).size + t132.size ≤ 9223372036854775807 then (if ((((⟨#[9, 105, 102, 32]⟩ : ByteArray) ++ x3) ++ t131) ++ t132).size + 5 ≤ 9223372036854775807 then (if (((((⟨#[9, 105, 102, 32]⟩ : ByteArray) ++ x3) ++ t131) ++ t132) ++ (⟨#[32, 116, 104, 101, 110]⟩ : ByteArray)).size + x4.size ≤ 9223372036854775807 then ((maquettelaw07_tags.f k (⟨#[115, 101, 116]⟩ : ByteArray) x130006).bind fun t133 => (if ((((((⟨#[9, 105, 102, 32]⟩ : ByteArray) ++ x3) ++ t131) ++ t132) ++ (⟨#[32, 116, 104, 101, 110]⟩ : ByteArray)) ++ x4).size + t133.size ≤ 9223372036854775807 then ((maquettelaw07_tags.f k (⟨#[99, 108, 101, 97, 114]⟩ : ByteArray) x130007).bind fun t134 => (if (((((((⟨#[9, 105, 102, 32]⟩ : ByteArray) ++ x3) ++ t131) ++ t132) ++ (⟨#[32, 116, 104, 101, 110]⟩ : ByteArray)) ++ x4) ++ t133).size + t134.size ≤ 9223372036854775807 then ((maquettelaw07_digits.f k x130008).bind fun t135 => ((maquettelaw07_named.f (⟨#[109, 111, 114, 101]⟩ : ByteArray) t135).bind fun t136 => (if ((((((((⟨#[9, 105, 102, 32]⟩ : ByteArray) ++ x3) ++ t131) ++ t132) ++ (⟨#[32, 116, 104, 101, 110]⟩ : ByteArray)) ++ x4) ++ t133) ++ t134).size + t136.size ≤ 9223372036854775807 then ((maquettelaw07_digits.f k x130009).bind fun t137 => ((maquettelaw07_named.f (⟨#[112, 114, 101, 102]⟩ : ByteArray) t137).bind fun t138 => (if (((((((((⟨#[9, 105, 102, 32]⟩ : ByteArray) ++ x3) ++ t131) ++ t132) ++ (⟨#[32, 116, 104, 101, 110]⟩ : ByteArray)) ++ x4) ++ t133) ++ t134) ++ t136).size + t138.size ≤ 9223372036854775807 then (if ((((((((((⟨#[9, 105, 102, 32]⟩ : ByteArray) ++ x3) ++ t131) ++ t132) ++ (⟨#[32, 116, 104, 101, 110]⟩ : ByteArray)) ++ x4) ++ t133) ++ t134) ++ t136) ++ t138).size + 2 ≤ 9223372036854775807 then (some (((((((((((⟨#[9, 105, 102, 32]⟩ : ByteArray) ++ x3) ++ t131) ++ t132) ++ (⟨#[32, 116, 104, 101, 110]⟩ : ByteArray)) ++ x4) ++ t133) ++ t134) ++ t136) ++ t138) ++ (⟨#[59, 10]⟩ : ByteArray))) else (none)) else (none)))) else (none)))) else (none))) else (none))) else (none)) else (none)) else (none))) else (none))) else (none)
end
def maquettelaw07_line.f (k : Nat) (a0_0 : Bool) (a0_1 : Int) (a0_2 : Int) (a0_3 : Int) (a0_4 : Int) (a0_5 : Bool) (a0_6 : Int) (a0_7 : Int) (a0_8 : Int) (a0_9 : Int) : Option (ByteArray) := if a0_0 = true then (maquettelaw07_line.j0 k (⟨#[97, 110, 121]⟩ : ByteArray) (⟨#[]⟩ : ByteArray) a0_0 a0_1 a0_2 a0_3 a0_4 a0_5 a0_6 a0_7 a0_8 a0_9) else ((prefix_Text.f k a0_1 a0_2).bind fun t130 => (maquettelaw07_line.j0 k t130 (⟨#[]⟩ : ByteArray) a0_0 a0_1 a0_2 a0_3 a0_4 a0_5 a0_6 a0_7 a0_8 a0_9))
theorem maquettelaw07_line.mono_l : ∀ k, (∀ y0 y1 y2 y3 y4 y5 y6 y7 y8 y9 y10 y11, LeO (maquettelaw07_line.j0 k y0 y1 y2 y3 y4 y5 y6 y7 y8 y9 y10 y11) (maquettelaw07_line.j0 (k + 1) y0 y1 y2 y3 y4 y5 y6 y7 y8 y9 y10 y11)) ∧ (∀ y0 y1 y2 y3 y4 y5 y6 y7 y8 y9 y10 y11, LeO (maquettelaw07_line.j1 k y0 y1 y2 y3 y4 y5 y6 y7 y8 y9 y10 y11) (maquettelaw07_line.j1 (k + 1) y0 y1 y2 y3 y4 y5 y6 y7 y8 y9 y10 y11))
 | 0 => ⟨fun _ _ _ _ _ _ _ _ _ _ _ _ r h => by simp [maquettelaw07_line.j0] at h, fun _ _ _ _ _ _ _ _ _ _ _ _ r h => by simp [maquettelaw07_line.j1] at h⟩
 | k + 1 => by
  obtain ⟨ih0, ih1⟩ := maquettelaw07_line.mono_l k
  refine ⟨?_, ?_⟩<;> intros <;> (first | unfold maquettelaw07_line.j0 | unfold maquettelaw07_line.j1) <;> repeat' first
   | (with_reducible exact ih0 _ _ _ _ _ _ _ _ _ _ _ _)
   | (with_reducible exact ih1 _ _ _ _ _ _ _ _ _ _ _ _)
   | (with_reducible exact maquettelaw07_digits.mono _ _)
   | (with_reducible exact maquettelaw07_tags.mono _ _ _)
   | (with_reducible exact prefix_Text.mono _ _ _)
   | (with_reducible exact LeO.refl _)
   | (with_reducible exact LeO.none _)
   | (with_reducible refine LeO.ite ?_ ?_)
   | (with_reducible refine LeO.bind ?_ (fun _ => ?_))
   | exact ih0 _ _ _ _ _ _ _ _ _ _ _ _
   | exact ih1 _ _ _ _ _ _ _ _ _ _ _ _
   | exact maquettelaw07_digits.mono _ _
   | exact maquettelaw07_tags.mono _ _ _
   | exact prefix_Text.mono _ _ _
   | exact LeO.none _
   | refine LeO.ite ?_ ?_
   | refine LeO.bind ?_ (fun _ => ?_)
theorem maquettelaw07_line.mono : ∀ a0 a1 a2 a3 a4 a5 a6 a7 a8 a9 k, LeO (maquettelaw07_line.f k a0 a1 a2 a3 a4 a5 a6 a7 a8 a9) (maquettelaw07_line.f (k + 1) a0 a1 a2 a3 a4 a5 a6 a7 a8 a9) := by
 intro a0 a1 a2 a3 a4 a5 a6 a7 a8 a9 k
 obtain ⟨ih0, ih1⟩ := maquettelaw07_line.mono_l k
 unfold maquettelaw07_line.f
 repeat' first
   | (with_reducible exact ih0 _ _ _ _ _ _ _ _ _ _ _ _)
   | (with_reducible exact ih1 _ _ _ _ _ _ _ _ _ _ _ _)
   | (with_reducible exact maquettelaw07_digits.mono _ _)
   | (with_reducible exact maquettelaw07_tags.mono _ _ _)
   | (with_reducible exact prefix_Text.mono _ _ _)
   | (with_reducible exact LeO.refl _)
   | (with_reducible exact LeO.none _)
   | (with_reducible refine LeO.ite ?_ ?_)
   | (with_reducible refine LeO.bind ?_ (fun _ => ?_))
   | exact ih0 _ _ _ _ _ _ _ _ _ _ _ _
   | exact ih1 _ _ _ _ _ _ _ _ _ _ _ _
   | exact maquettelaw07_digits.mono _ _
   | exact maquettelaw07_tags.mono _ _ _
   | exact prefix_Text.mono _ _ _
   | exact LeO.none _
   | refine LeO.ite ?_ ?_
   | refine LeO.bind ?_ (fun _ => ?_)
def maquettelaw07_line.T6 : Bool × List (List Nat × List Nat) := (true, [([], []), ([0], [0]), ([], []), ([2], [2]), ([3], [3]), ([1, 4], [1, 4]), ([], []), ([6], [6]), ([7, 4], [7]), ([5, 8], [5, 8]), ([9], [9]), ([], []), ([10, 11], [10, 11]), ([], []), ([13], [13]), ([14, 8], [14]), ([12, 15], [12, 15]), ([], []), ([17], [17]), ([18, 15], [18]), ([16, 19], [16, 19]), ([], []), ([21], [21]), ([22, 19], [22]), ([23, 23], [23]), ([20, 24], [20, 24]), ([], []), ([26], [26]), ([27, 24], [27]), ([28, 28], [28]), ([25, 29], [25, 29]), ([30], [30]), ([31, 29, 0, 1, 2, 3, 4, 5, 6, 7, 8, 9, 10, 11, 12, 13, 14, 15, 16, 17, 18, 19, 20, 21, 22, 23, 24, 25, 26, 27, 28, 29, 30, 31], [31])])
def maquettelaw07_line.B6 : List Nat := [0, 1, 0, 4, 12, 31, 0, 64, 220, 511, 1023, 0, 4095, 0, 8192, 25052, 65535, 0, 131072, 451036, 1048575, 0, 2097152, 7266780, 15655388, 33554431, 0, 67108864, 233759196, 502194652, 1073741823, 2147483647, 4294967295]
theorem maquettelaw07_line.tab6 : rtab .any (opsOf Tryd.f22 6) = maquettelaw07_line.T6 := by kernel_rfl
theorem maquettelaw07_line.bits6 : waitsOk maquettelaw07_line.T6.2 maquettelaw07_line.B6 = true := by kernel_rfl
set_option maxHeartbeats 8000000 in
set_option maxRecDepth 100000 in
theorem maquettelaw07_line.calls (k : Nat) (a0_0 : Bool) (a0_1 : Int) (a0_2 : Int) (a0_3 : Int) (a0_4 : Int) (a0_5 : Bool) (a0_6 : Int) (a0_7 : Int) (a0_8 : Int) (a0_9 : Int) (r : ByteArray) (w : World) (h : maquettelaw07_line.f k a0_0 a0_1 a0_2 a0_3 a0_4 a0_5 a0_6 a0_7 a0_8 a0_9 = some r) (hInv : Go.Proofs.YtjcopneljfcfoaaDoor.Inv.Inv w) :
  Calls Tryd.prog 22 #[.agg #[.bool a0_0, .int .u32 a0_1, .int .i64 a0_2, .int .u8 a0_3, .int .u8 a0_4, .bool a0_5, .int .u8 a0_6, .int .u8 a0_7, .int .i64 a0_8, .int .i64 a0_9]] w fun e w' => e = .returned (.string r) ∧ Below w.heap.size w w' := by
 have hu41 := Tryd.underlying41
 have hu39 := Tryd.underlying39
 have HB := Aside0.mk (Below.refl w.heap.size w)
 have H : (if a0_0 = true then (maquettelaw07_line.j0 k (⟨#[97, 110, 121]⟩ : ByteArray) (⟨#[]⟩ : ByteArray) a0_0 a0_1 a0_2 a0_3 a0_4 a0_5 a0_6 a0_7 a0_8 a0_9) else ((prefix_Text.f k a0_1 a0_2).bind fun t130 => (maquettelaw07_line.j0 k t130 (⟨#[]⟩ : ByteArray) a0_0 a0_1 a0_2 a0_3 a0_4 a0_5 a0_6 a0_7 a0_8 a0_9))) = some r := h
 clear h
 have HC2 := Aside0.mk H
 clear H
 go_enter Tryd.func22, Tryd.ntmps22
 go_upto_if 7 with (first | ((with_reducible refine gate_dst (N := 1) rfl ?_); refine bx 1 (cs := #[.bool a0_0, .int .u32 a0_1, .int .i64 a0_2, .int .u8 a0_3, .int .u8 a0_4, .bool a0_5, .int .u8 a0_6, .int .u8 a0_7, .int .i64 a0_8, .int .i64 a0_9]) (t := 41) (h := ?_); intro gb129 hg w3 hbox hb; have BK129 := Aside0.mk hbox; have GW129 : Aside0 (w.heap.size ≤ gb129) := bge hg; have GE129 : Aside0 (w.heap.size ≤ gb129) := bge hg; replace HB := bst hb; clear hb hbox hg; obtain ⟨hcz4_0, hcz4_1, hcz4_2, hcz4_3, hcz4_4, hcz4_5, hcz4_6, hcz4_7, hcz4_8, hcz4_9, hfz4_0, hfz4_1, hfz4_2, hfz4_3, hfz4_4, hfz4_5, hfz4_6, hfz4_7, hfz4_8, hfz4_9⟩ := bc10 BK129))
 (try simp only [Act.put, List.setIfInBounds_toArray, List.set_cons_zero, List.set_cons_succ])
 go_cut [3] (fun v3 wc => ∃ (kq : Nat) (x3_1 : ByteArray), v3 = .string x3_1 ∧ Aside0 (maquettelaw07_line.j0 kq x3_1 (⟨#[]⟩ : ByteArray) a0_0 a0_1 a0_2 a0_3 a0_4 a0_5 a0_6 a0_7 a0_8 a0_9 = some r) ∧ Aside0 (kq ≤ k) ∧ Aside0 (wc.heap[gb129]? = some (.cells #[.bool a0_0, .int .u32 a0_1, .int .i64 a0_2, .int .u8 a0_3, .int .u8 a0_4, .bool a0_5, .int .u8 a0_6, .int .u8 a0_7, .int .i64 a0_8, .int .i64 a0_9] 41 (0, 0))) ∧ Aside0 (Below w.heap.size w wc))
 case first =>
  have H := HC2.out
  clear HC2
  by_cases c5 : a0_0 = true
  ·subst c5
   have H1 : (maquettelaw07_line.j0 k (⟨#[97, 110, 121]⟩ : ByteArray) (⟨#[]⟩ : ByteArray) true a0_1 a0_2 a0_3 a0_4 a0_5 a0_6 a0_7 a0_8 a0_9) = some r := by rw [if_pos rfl] at H; exact H
   clear H
   have H := H1
   clear H1
   have H' := Aside0.mk H
   clear H
   go_wp2
   go_meet
   case rel => exact ⟨_, ((⟨#[97, 110, 121]⟩ : ByteArray)), (by first | rfl | (simp; done) | (simp [*]; done)), H', ⟨by first | omega | exact Nat.le_refl _⟩, ⟨bkq BK129⟩, ⟨by repeat (first | (with_reducible first | exact HB.out | apply below_alloc | apply pw_below_drewN | apply below_drew1 | refine below_set ?_ GE129.out) | exact HB.out)⟩⟩
  ·replace c5 := Bool.eq_false_iff.mpr c5
   subst c5
   have H1 : ((prefix_Text.f k a0_1 a0_2).bind fun t130 => (maquettelaw07_line.j0 k t130 (⟨#[]⟩ : ByteArray) false a0_1 a0_2 a0_3 a0_4 a0_5 a0_6 a0_7 a0_8 a0_9)) = some r := by rw [if_neg (show ¬ (false = true) by decide)] at H; exact H
   clear H
   have H := H1
   clear H1
   replace H := Option.bind_eq_some_iff.mp H
   obtain ⟨t130, A60, H⟩ := H
   replace H : (maquettelaw07_line.j0 k t130 (⟨#[]⟩ : ByteArray) false a0_1 a0_2 a0_3 a0_4 a0_5 a0_6 a0_7 a0_8 a0_9) = some r := H
   have A6 := Aside0.mk A60
   clear A60
   have H' := Aside0.mk H
   clear H
   obtain ⟨hcz7_0, hcz7_1, hcz7_2, hcz7_3, hcz7_4, hcz7_5, hcz7_6, hcz7_7, hcz7_8, hcz7_9, hfz7_0, hfz7_1, hfz7_2, hfz7_3, hfz7_4, hfz7_5, hfz7_6, hfz7_7, hfz7_8, hfz7_9⟩ := bc10 BK129
   go_wp2_with (first | ((with_reducible refine gate_dst (N := 10) rfl ?_); refine gl (some 10) Tryd.func23 #[.agg #[.int .u32 a0_1, .int .i64 a0_2]] ?_; (with_reducible refine (prefix_Text.calls k a0_1 a0_2 t130 _ A6.out (Go.Proofs.YtjcopneljfcfoaaDoor.Inv.ivb hInv)).mono ?_); rintro e w8 ⟨rfl, hb⟩; refine ⟨_, rfl, ?_⟩; replace BK129 := bkb BK129 hb; replace HB := bst hb; (try clear hb); (try clear hb2); (try clear hk); (try clear hi)))
   go_meet
   case rel => exact ⟨_, (t130), (by first | rfl | (simp; done) | (simp [*]; done)), H', ⟨by first | omega | exact Nat.le_refl _⟩, ⟨bkq BK129⟩, ⟨by repeat (first | (with_reducible first | exact HB.out | apply below_alloc | apply pw_below_drewN | apply below_drew1 | refine below_set ?_ GE129.out) | exact HB.out)⟩⟩
 case rest =>
  clear HC2
  try clear c2
  try clear p2
  try clear c5
  try clear hcz4_0 hcz4_1 hcz4_2 hcz4_3 hcz4_4 hcz4_5 hcz4_6 hcz4_7 hcz4_8 hcz4_9 hfz4_0 hfz4_1 hfz4_2 hfz4_3 hfz4_4 hfz4_5 hfz4_6 hfz4_7 hfz4_8 hfz4_9
  try clear hcz7_0 hcz7_1 hcz7_2 hcz7_3 hcz7_4 hcz7_5 hcz7_6 hcz7_7 hcz7_8 hcz7_9 hfz7_0 hfz7_1 hfz7_2 hfz7_3 hfz7_4 hfz7_5 hfz7_6 hfz7_7 hfz7_8 hfz7_9
  obtain ⟨kq, x3_1, rfl, HA, HJ1, BK129, HB⟩ := hcut
  cases kq with
  | zero => exact absurd HA.out (by simp [maquettelaw07_line.j0])
  | succ kj1 =>
   have H := HA.out
   clear HA
   simp only [maquettelaw07_line.j0] at H
   have HC9 := Aside0.mk H
   clear H
   obtain ⟨hcz10_0, hcz10_1, hcz10_2, hcz10_3, hcz10_4, hcz10_5, hcz10_6, hcz10_7, hcz10_8, hcz10_9, hfz10_0, hfz10_1, hfz10_2, hfz10_3, hfz10_4, hfz10_5, hfz10_6, hfz10_7, hfz10_8, hfz10_9⟩ := bc10 BK129
   go_upto_if 12 with (fail)
   go_cut [4] (fun v4 wc => ∃ (kq : Nat) (x4_8 : ByteArray), v4 = .string x4_8 ∧ Aside0 (maquettelaw07_line.j1 kq x3_1 x4_8 a0_0 a0_1 a0_2 a0_3 a0_4 a0_5 a0_6 a0_7 a0_8 a0_9 = some r) ∧ Aside0 (kq ≤ kj1) ∧ Aside0 (wc.heap[gb129]? = some (.cells #[.bool a0_0, .int .u32 a0_1, .int .i64 a0_2, .int .u8 a0_3, .int .u8 a0_4, .bool a0_5, .int .u8 a0_6, .int .u8 a0_7, .int .i64 a0_8, .int .i64 a0_9] 41 (0, 0))) ∧ Aside0 (Below w.heap.size w wc))
   case first =>
    have H := HC9.out
    clear HC9
    by_cases c11 : a0_5 = true
    ·subst c11
     have H1 : (maquettelaw07_line.j1 kj1 x3_1 (⟨#[32, 100, 114, 111, 112]⟩ : ByteArray) a0_0 a0_1 a0_2 a0_3 a0_4 true a0_6 a0_7 a0_8 a0_9) = some r := by rw [if_pos rfl] at H; exact H
     clear H
     have H := H1
     clear H1
     have H' := Aside0.mk H
     clear H
     go_wp2
     go_meet
     case rel => exact ⟨_, ((⟨#[32, 100, 114, 111, 112]⟩ : ByteArray)), (by first | rfl | (simp; done) | (simp [*]; done)), H', ⟨by have := HJ1.out; first | omega | exact Nat.le_refl _⟩, ⟨bkq BK129⟩, ⟨by repeat (first | (with_reducible first | exact HB.out | apply below_alloc | apply pw_below_drewN | apply below_drew1 | refine below_set ?_ GE129.out) | exact HB.out)⟩⟩
    ·replace c11 := Bool.eq_false_iff.mpr c11
     subst c11
     have H1 : (maquettelaw07_line.j1 kj1 x3_1 (⟨#[]⟩ : ByteArray) a0_0 a0_1 a0_2 a0_3 a0_4 false a0_6 a0_7 a0_8 a0_9) = some r := by rw [if_neg (show ¬ (false = true) by decide)] at H; exact H
     clear H
     have H := H1
     clear H1
     have H' := Aside0.mk H
     clear H
     go_wp2
     go_meet
     case rel => exact ⟨_, ((⟨#[]⟩ : ByteArray)), (by first | rfl | (simp; done) | (simp [*]; done)), H', ⟨by have := HJ1.out; first | omega | exact Nat.le_refl _⟩, ⟨bkq BK129⟩, ⟨by repeat (first | (with_reducible first | exact HB.out | apply below_alloc | apply pw_below_drewN | apply below_drew1 | refine below_set ?_ GE129.out) | exact HB.out)⟩⟩
   case rest =>
    clear HC9
    try clear c1
    try clear c2
    try clear p2 p2
    try clear c5
    try clear c11
    try clear hcz10_0 hcz10_1 hcz10_2 hcz10_3 hcz10_4 hcz10_5 hcz10_6 hcz10_7 hcz10_8 hcz10_9 hfz10_0 hfz10_1 hfz10_2 hfz10_3 hfz10_4 hfz10_5 hfz10_6 hfz10_7 hfz10_8 hfz10_9
    try clear hcz4_0 hcz4_1 hcz4_2 hcz4_3 hcz4_4 hcz4_5 hcz4_6 hcz4_7 hcz4_8 hcz4_9 hfz4_0 hfz4_1 hfz4_2 hfz4_3 hfz4_4 hfz4_5 hfz4_6 hfz4_7 hfz4_8 hfz4_9
    try clear hcz7_0 hcz7_1 hcz7_2 hcz7_3 hcz7_4 hcz7_5 hcz7_6 hcz7_7 hcz7_8 hcz7_9 hfz7_0 hfz7_1 hfz7_2 hfz7_3 hfz7_4 hfz7_5 hfz7_6 hfz7_7 hfz7_8 hfz7_9
    obtain ⟨kq, x4_8, rfl, HA, HJ8, BK129, HB⟩ := hcut
    cases kq with
    | zero => exact absurd HA.out (by simp [maquettelaw07_line.j1])
    | succ kj8 =>
     have H := HA.out
     clear HA
     simp only [maquettelaw07_line.j1] at H
     by_cases c12 : 4 + x3_1.size ≤ 9223372036854775807
     ·rw [if_pos c12] at H
      have c12b0 := eq_true c12
      have c12b1 := decide_eq_true c12
      try have c12b2 := eq_false (Nat.not_lt.2 c12)
      replace H := Option.bind_eq_some_iff.mp H
      obtain ⟨t131, A130, H⟩ := H
      replace H : (if ((⟨#[9, 105, 102, 32]⟩ : ByteArray) ++ x3_1).size + t131.size ≤ 9223372036854775807 then ((maquettelaw07_tags.f kj8 (⟨#[111, 117, 116]⟩ : ByteArray) a0_4).bind fun t132 => (if (((⟨#[9, 105, 102, 32]⟩ : ByteArray) ++ x3_1) ++ t131).size + t132.size ≤ 9223372036854775807 then (if ((((⟨#[9, 105, 102, 32]⟩ : ByteArray) ++ x3_1) ++ t131) ++ t132).size + 5 ≤ 9223372036854775807 then (if (((((⟨#[9, 105, 102, 32]⟩ : ByteArray) ++ x3_1) ++ t131) ++ t132) ++ (⟨#[32, 116, 104, 101, 110]⟩ : ByteArray)).size + x4_8.size ≤ 9223372036854775807 then ((maquettelaw07_tags.f kj8 (⟨#[115, 101, 116]⟩ : ByteArray) a0_6).bind fun t133 => (if ((((((⟨#[9, 105, 102, 32]⟩ : ByteArray) ++ x3_1) ++ t131) ++ t132) ++ (⟨#[32, 116, 104, 101, 110]⟩ : ByteArray)) ++ x4_8).size + t133.size ≤ 9223372036854775807 then ((maquettelaw07_tags.f kj8 (⟨#[99, 108, 101, 97, 114]⟩ : ByteArray) a0_7).bind fun t134 => (if (((((((⟨#[9, 105, 102, 32]⟩ : ByteArray) ++ x3_1) ++ t131) ++ t132) ++ (⟨#[32, 116, 104, 101, 110]⟩ : ByteArray)) ++ x4_8) ++ t133).size + t134.size ≤ 9223372036854775807 then ((maquettelaw07_digits.f kj8 a0_8).bind fun t135 => ((maquettelaw07_named.f (⟨#[109, 111, 114, 101]⟩ : ByteArray) t135).bind fun t136 => (if ((((((((⟨#[9, 105, 102, 32]⟩ : ByteArray) ++ x3_1) ++ t131) ++ t132) ++ (⟨#[32, 116, 104, 101, 110]⟩ : ByteArray)) ++ x4_8) ++ t133) ++ t134).size + t136.size ≤ 9223372036854775807 then ((maquettelaw07_digits.f kj8 a0_9).bind fun t137 => ((maquettelaw07_named.f (⟨#[112, 114, 101, 102]⟩ : ByteArray) t137).bind fun t138 => (if (((((((((⟨#[9, 105, 102, 32]⟩ : ByteArray) ++ x3_1) ++ t131) ++ t132) ++ (⟨#[32, 116, 104, 101, 110]⟩ : ByteArray)) ++ x4_8) ++ t133) ++ t134) ++ t136).size + t138.size ≤ 9223372036854775807 then (if ((((((((((⟨#[9, 105, 102, 32]⟩ : ByteArray) ++ x3_1) ++ t131) ++ t132) ++ (⟨#[32, 116, 104, 101, 110]⟩ : ByteArray)) ++ x4_8) ++ t133) ++ t134) ++ t136) ++ t138).size + 2 ≤ 9223372036854775807 then (some (((((((((((⟨#[9, 105, 102, 32]⟩ : ByteArray) ++ x3_1) ++ t131) ++ t132) ++ (⟨#[32, 116, 104, 101, 110]⟩ : ByteArray)) ++ x4_8) ++ t133) ++ t134) ++ t136) ++ t138) ++ (⟨#[59, 10]⟩ : ByteArray))) else (none)) else (none)))) else (none)))) else (none))) else (none))) else (none)) else (none)) else (none))) else (none)) = some r := H
      have A13 := Aside0.mk A130
      clear A130
      by_cases c14 : ((⟨#[9, 105, 102, 32]⟩ : ByteArray) ++ x3_1).size + t131.size ≤ 9223372036854775807
      ·rw [if_pos c14] at H
       have c14b0 := eq_true c14
       have c14b1 := decide_eq_true c14
       try have c14b2 := eq_false (Nat.not_lt.2 c14)
       try have c14b3 : (9223372036854775807 < 4 + x3_1.size + t131.size) = False := by (have h_ := c14; simp only [ByteArray.size_append] at h_; exact eq_false (Nat.not_lt.2 h_))
       replace H := Option.bind_eq_some_iff.mp H
       obtain ⟨t132, A150, H⟩ := H
       replace H : (if (((⟨#[9, 105, 102, 32]⟩ : ByteArray) ++ x3_1) ++ t131).size + t132.size ≤ 9223372036854775807 then (if ((((⟨#[9, 105, 102, 32]⟩ : ByteArray) ++ x3_1) ++ t131) ++ t132).size + 5 ≤ 9223372036854775807 then (if (((((⟨#[9, 105, 102, 32]⟩ : ByteArray) ++ x3_1) ++ t131) ++ t132) ++ (⟨#[32, 116, 104, 101, 110]⟩ : ByteArray)).size + x4_8.size ≤ 9223372036854775807 then ((maquettelaw07_tags.f kj8 (⟨#[115, 101, 116]⟩ : ByteArray) a0_6).bind fun t133 => (if ((((((⟨#[9, 105, 102, 32]⟩ : ByteArray) ++ x3_1) ++ t131) ++ t132) ++ (⟨#[32, 116, 104, 101, 110]⟩ : ByteArray)) ++ x4_8).size + t133.size ≤ 9223372036854775807 then ((maquettelaw07_tags.f kj8 (⟨#[99, 108, 101, 97, 114]⟩ : ByteArray) a0_7).bind fun t134 => (if (((((((⟨#[9, 105, 102, 32]⟩ : ByteArray) ++ x3_1) ++ t131) ++ t132) ++ (⟨#[32, 116, 104, 101, 110]⟩ : ByteArray)) ++ x4_8) ++ t133).size + t134.size ≤ 9223372036854775807 then ((maquettelaw07_digits.f kj8 a0_8).bind fun t135 => ((maquettelaw07_named.f (⟨#[109, 111, 114, 101]⟩ : ByteArray) t135).bind fun t136 => (if ((((((((⟨#[9, 105, 102, 32]⟩ : ByteArray) ++ x3_1) ++ t131) ++ t132) ++ (⟨#[32, 116, 104, 101, 110]⟩ : ByteArray)) ++ x4_8) ++ t133) ++ t134).size + t136.size ≤ 9223372036854775807 then ((maquettelaw07_digits.f kj8 a0_9).bind fun t137 => ((maquettelaw07_named.f (⟨#[112, 114, 101, 102]⟩ : ByteArray) t137).bind fun t138 => (if (((((((((⟨#[9, 105, 102, 32]⟩ : ByteArray) ++ x3_1) ++ t131) ++ t132) ++ (⟨#[32, 116, 104, 101, 110]⟩ : ByteArray)) ++ x4_8) ++ t133) ++ t134) ++ t136).size + t138.size ≤ 9223372036854775807 then (if ((((((((((⟨#[9, 105, 102, 32]⟩ : ByteArray) ++ x3_1) ++ t131) ++ t132) ++ (⟨#[32, 116, 104, 101, 110]⟩ : ByteArray)) ++ x4_8) ++ t133) ++ t134) ++ t136) ++ t138).size + 2 ≤ 9223372036854775807 then (some (((((((((((⟨#[9, 105, 102, 32]⟩ : ByteArray) ++ x3_1) ++ t131) ++ t132) ++ (⟨#[32, 116, 104, 101, 110]⟩ : ByteArray)) ++ x4_8) ++ t133) ++ t134) ++ t136) ++ t138) ++ (⟨#[59, 10]⟩ : ByteArray))) else (none)) else (none)))) else (none)))) else (none))) else (none))) else (none)) else (none)) else (none)) = some r := H
       have A15 := Aside0.mk A150
       clear A150
       by_cases c16 : (((⟨#[9, 105, 102, 32]⟩ : ByteArray) ++ x3_1) ++ t131).size + t132.size ≤ 9223372036854775807
       ·rw [if_pos c16] at H
        have c16b0 := eq_true c16
        have c16b1 := decide_eq_true c16
        try have c16b2 := eq_false (Nat.not_lt.2 c16)
        try have c16b3 : (9223372036854775807 < 4 + x3_1.size + t131.size + t132.size) = False := by (have h_ := c16; simp only [ByteArray.size_append] at h_; exact eq_false (Nat.not_lt.2 h_))
        by_cases c17 : ((((⟨#[9, 105, 102, 32]⟩ : ByteArray) ++ x3_1) ++ t131) ++ t132).size + 5 ≤ 9223372036854775807
        ·rw [if_pos c17] at H
         have c17b0 := eq_true c17
         have c17b1 := decide_eq_true c17
         try have c17b2 := eq_false (Nat.not_lt.2 c17)
         try have c17b3 : (9223372036854775807 < 4 + x3_1.size + t131.size + t132.size + 5) = False := by (have h_ := c17; simp only [ByteArray.size_append] at h_; exact eq_false (Nat.not_lt.2 h_))
         by_cases c18 : (((((⟨#[9, 105, 102, 32]⟩ : ByteArray) ++ x3_1) ++ t131) ++ t132) ++ (⟨#[32, 116, 104, 101, 110]⟩ : ByteArray)).size + x4_8.size ≤ 9223372036854775807
         ·rw [if_pos c18] at H
          have c18b0 := eq_true c18
          have c18b1 := decide_eq_true c18
          try have c18b2 := eq_false (Nat.not_lt.2 c18)
          try have c18b3 : (9223372036854775807 < 4 + x3_1.size + t131.size + t132.size + 5 + x4_8.size) = False := by (have h_ := c18; simp only [ByteArray.size_append] at h_; exact eq_false (Nat.not_lt.2 h_))
          replace H := Option.bind_eq_some_iff.mp H
          obtain ⟨t133, A190, H⟩ := H
          replace H : (if ((((((⟨#[9, 105, 102, 32]⟩ : ByteArray) ++ x3_1) ++ t131) ++ t132) ++ (⟨#[32, 116, 104, 101, 110]⟩ : ByteArray)) ++ x4_8).size + t133.size ≤ 9223372036854775807 then ((maquettelaw07_tags.f kj8 (⟨#[99, 108, 101, 97, 114]⟩ : ByteArray) a0_7).bind fun t134 => (if (((((((⟨#[9, 105, 102, 32]⟩ : ByteArray) ++ x3_1) ++ t131) ++ t132) ++ (⟨#[32, 116, 104, 101, 110]⟩ : ByteArray)) ++ x4_8) ++ t133).size + t134.size ≤ 9223372036854775807 then ((maquettelaw07_digits.f kj8 a0_8).bind fun t135 => ((maquettelaw07_named.f (⟨#[109, 111, 114, 101]⟩ : ByteArray) t135).bind fun t136 => (if ((((((((⟨#[9, 105, 102, 32]⟩ : ByteArray) ++ x3_1) ++ t131) ++ t132) ++ (⟨#[32, 116, 104, 101, 110]⟩ : ByteArray)) ++ x4_8) ++ t133) ++ t134).size + t136.size ≤ 9223372036854775807 then ((maquettelaw07_digits.f kj8 a0_9).bind fun t137 => ((maquettelaw07_named.f (⟨#[112, 114, 101, 102]⟩ : ByteArray) t137).bind fun t138 => (if (((((((((⟨#[9, 105, 102, 32]⟩ : ByteArray) ++ x3_1) ++ t131) ++ t132) ++ (⟨#[32, 116, 104, 101, 110]⟩ : ByteArray)) ++ x4_8) ++ t133) ++ t134) ++ t136).size + t138.size ≤ 9223372036854775807 then (if ((((((((((⟨#[9, 105, 102, 32]⟩ : ByteArray) ++ x3_1) ++ t131) ++ t132) ++ (⟨#[32, 116, 104, 101, 110]⟩ : ByteArray)) ++ x4_8) ++ t133) ++ t134) ++ t136) ++ t138).size + 2 ≤ 9223372036854775807 then (some (((((((((((⟨#[9, 105, 102, 32]⟩ : ByteArray) ++ x3_1) ++ t131) ++ t132) ++ (⟨#[32, 116, 104, 101, 110]⟩ : ByteArray)) ++ x4_8) ++ t133) ++ t134) ++ t136) ++ t138) ++ (⟨#[59, 10]⟩ : ByteArray))) else (none)) else (none)))) else (none)))) else (none))) else (none)) = some r := H
          have A19 := Aside0.mk A190
          clear A190
          by_cases c20 : ((((((⟨#[9, 105, 102, 32]⟩ : ByteArray) ++ x3_1) ++ t131) ++ t132) ++ (⟨#[32, 116, 104, 101, 110]⟩ : ByteArray)) ++ x4_8).size + t133.size ≤ 9223372036854775807
          ·rw [if_pos c20] at H
           have c20b0 := eq_true c20
           have c20b1 := decide_eq_true c20
           try have c20b2 := eq_false (Nat.not_lt.2 c20)
           try have c20b3 : (9223372036854775807 < 4 + x3_1.size + t131.size + t132.size + 5 + x4_8.size + t133.size) = False := by (have h_ := c20; simp only [ByteArray.size_append] at h_; exact eq_false (Nat.not_lt.2 h_))
           replace H := Option.bind_eq_some_iff.mp H
           obtain ⟨t134, A210, H⟩ := H
           replace H : (if (((((((⟨#[9, 105, 102, 32]⟩ : ByteArray) ++ x3_1) ++ t131) ++ t132) ++ (⟨#[32, 116, 104, 101, 110]⟩ : ByteArray)) ++ x4_8) ++ t133).size + t134.size ≤ 9223372036854775807 then ((maquettelaw07_digits.f kj8 a0_8).bind fun t135 => ((maquettelaw07_named.f (⟨#[109, 111, 114, 101]⟩ : ByteArray) t135).bind fun t136 => (if ((((((((⟨#[9, 105, 102, 32]⟩ : ByteArray) ++ x3_1) ++ t131) ++ t132) ++ (⟨#[32, 116, 104, 101, 110]⟩ : ByteArray)) ++ x4_8) ++ t133) ++ t134).size + t136.size ≤ 9223372036854775807 then ((maquettelaw07_digits.f kj8 a0_9).bind fun t137 => ((maquettelaw07_named.f (⟨#[112, 114, 101, 102]⟩ : ByteArray) t137).bind fun t138 => (if (((((((((⟨#[9, 105, 102, 32]⟩ : ByteArray) ++ x3_1) ++ t131) ++ t132) ++ (⟨#[32, 116, 104, 101, 110]⟩ : ByteArray)) ++ x4_8) ++ t133) ++ t134) ++ t136).size + t138.size ≤ 9223372036854775807 then (if ((((((((((⟨#[9, 105, 102, 32]⟩ : ByteArray) ++ x3_1) ++ t131) ++ t132) ++ (⟨#[32, 116, 104, 101, 110]⟩ : ByteArray)) ++ x4_8) ++ t133) ++ t134) ++ t136) ++ t138).size + 2 ≤ 9223372036854775807 then (some (((((((((((⟨#[9, 105, 102, 32]⟩ : ByteArray) ++ x3_1) ++ t131) ++ t132) ++ (⟨#[32, 116, 104, 101, 110]⟩ : ByteArray)) ++ x4_8) ++ t133) ++ t134) ++ t136) ++ t138) ++ (⟨#[59, 10]⟩ : ByteArray))) else (none)) else (none)))) else (none)))) else (none)) = some r := H
           have A21 := Aside0.mk A210
           clear A210
           by_cases c22 : (((((((⟨#[9, 105, 102, 32]⟩ : ByteArray) ++ x3_1) ++ t131) ++ t132) ++ (⟨#[32, 116, 104, 101, 110]⟩ : ByteArray)) ++ x4_8) ++ t133).size + t134.size ≤ 9223372036854775807
           ·rw [if_pos c22] at H
            have c22b0 := eq_true c22
            have c22b1 := decide_eq_true c22
            try have c22b2 := eq_false (Nat.not_lt.2 c22)
            try have c22b3 : (9223372036854775807 < 4 + x3_1.size + t131.size + t132.size + 5 + x4_8.size + t133.size + t134.size) = False := by (have h_ := c22; simp only [ByteArray.size_append] at h_; exact eq_false (Nat.not_lt.2 h_))
            replace H := Option.bind_eq_some_iff.mp H
            obtain ⟨t135, A230, H⟩ := H
            replace H : ((maquettelaw07_named.f (⟨#[109, 111, 114, 101]⟩ : ByteArray) t135).bind fun t136 => (if ((((((((⟨#[9, 105, 102, 32]⟩ : ByteArray) ++ x3_1) ++ t131) ++ t132) ++ (⟨#[32, 116, 104, 101, 110]⟩ : ByteArray)) ++ x4_8) ++ t133) ++ t134).size + t136.size ≤ 9223372036854775807 then ((maquettelaw07_digits.f kj8 a0_9).bind fun t137 => ((maquettelaw07_named.f (⟨#[112, 114, 101, 102]⟩ : ByteArray) t137).bind fun t138 => (if (((((((((⟨#[9, 105, 102, 32]⟩ : ByteArray) ++ x3_1) ++ t131) ++ t132) ++ (⟨#[32, 116, 104, 101, 110]⟩ : ByteArray)) ++ x4_8) ++ t133) ++ t134) ++ t136).size + t138.size ≤ 9223372036854775807 then (if ((((((((((⟨#[9, 105, 102, 32]⟩ : ByteArray) ++ x3_1) ++ t131) ++ t132) ++ (⟨#[32, 116, 104, 101, 110]⟩ : ByteArray)) ++ x4_8) ++ t133) ++ t134) ++ t136) ++ t138).size + 2 ≤ 9223372036854775807 then (some (((((((((((⟨#[9, 105, 102, 32]⟩ : ByteArray) ++ x3_1) ++ t131) ++ t132) ++ (⟨#[32, 116, 104, 101, 110]⟩ : ByteArray)) ++ x4_8) ++ t133) ++ t134) ++ t136) ++ t138) ++ (⟨#[59, 10]⟩ : ByteArray))) else (none)) else (none)))) else (none))) = some r := H
            have A23 := Aside0.mk A230
            clear A230
            replace H := Option.bind_eq_some_iff.mp H
            obtain ⟨t136, A240, H⟩ := H
            replace H : (if ((((((((⟨#[9, 105, 102, 32]⟩ : ByteArray) ++ x3_1) ++ t131) ++ t132) ++ (⟨#[32, 116, 104, 101, 110]⟩ : ByteArray)) ++ x4_8) ++ t133) ++ t134).size + t136.size ≤ 9223372036854775807 then ((maquettelaw07_digits.f kj8 a0_9).bind fun t137 => ((maquettelaw07_named.f (⟨#[112, 114, 101, 102]⟩ : ByteArray) t137).bind fun t138 => (if (((((((((⟨#[9, 105, 102, 32]⟩ : ByteArray) ++ x3_1) ++ t131) ++ t132) ++ (⟨#[32, 116, 104, 101, 110]⟩ : ByteArray)) ++ x4_8) ++ t133) ++ t134) ++ t136).size + t138.size ≤ 9223372036854775807 then (if ((((((((((⟨#[9, 105, 102, 32]⟩ : ByteArray) ++ x3_1) ++ t131) ++ t132) ++ (⟨#[32, 116, 104, 101, 110]⟩ : ByteArray)) ++ x4_8) ++ t133) ++ t134) ++ t136) ++ t138).size + 2 ≤ 9223372036854775807 then (some (((((((((((⟨#[9, 105, 102, 32]⟩ : ByteArray) ++ x3_1) ++ t131) ++ t132) ++ (⟨#[32, 116, 104, 101, 110]⟩ : ByteArray)) ++ x4_8) ++ t133) ++ t134) ++ t136) ++ t138) ++ (⟨#[59, 10]⟩ : ByteArray))) else (none)) else (none)))) else (none)) = some r := H
            have A24 := Aside0.mk A240
            clear A240
            by_cases c25 : ((((((((⟨#[9, 105, 102, 32]⟩ : ByteArray) ++ x3_1) ++ t131) ++ t132) ++ (⟨#[32, 116, 104, 101, 110]⟩ : ByteArray)) ++ x4_8) ++ t133) ++ t134).size + t136.size ≤ 9223372036854775807
            ·rw [if_pos c25] at H
             have c25b0 := eq_true c25
             have c25b1 := decide_eq_true c25
             try have c25b2 := eq_false (Nat.not_lt.2 c25)
             try have c25b3 : (9223372036854775807 < 4 + x3_1.size + t131.size + t132.size + 5 + x4_8.size + t133.size + t134.size + t136.size) = False := by (have h_ := c25; simp only [ByteArray.size_append] at h_; exact eq_false (Nat.not_lt.2 h_))
             replace H := Option.bind_eq_some_iff.mp H
             obtain ⟨t137, A260, H⟩ := H
             replace H : ((maquettelaw07_named.f (⟨#[112, 114, 101, 102]⟩ : ByteArray) t137).bind fun t138 => (if (((((((((⟨#[9, 105, 102, 32]⟩ : ByteArray) ++ x3_1) ++ t131) ++ t132) ++ (⟨#[32, 116, 104, 101, 110]⟩ : ByteArray)) ++ x4_8) ++ t133) ++ t134) ++ t136).size + t138.size ≤ 9223372036854775807 then (if ((((((((((⟨#[9, 105, 102, 32]⟩ : ByteArray) ++ x3_1) ++ t131) ++ t132) ++ (⟨#[32, 116, 104, 101, 110]⟩ : ByteArray)) ++ x4_8) ++ t133) ++ t134) ++ t136) ++ t138).size + 2 ≤ 9223372036854775807 then (some (((((((((((⟨#[9, 105, 102, 32]⟩ : ByteArray) ++ x3_1) ++ t131) ++ t132) ++ (⟨#[32, 116, 104, 101, 110]⟩ : ByteArray)) ++ x4_8) ++ t133) ++ t134) ++ t136) ++ t138) ++ (⟨#[59, 10]⟩ : ByteArray))) else (none)) else (none))) = some r := H
             have A26 := Aside0.mk A260
             clear A260
             replace H := Option.bind_eq_some_iff.mp H
             obtain ⟨t138, A270, H⟩ := H
             replace H : (if (((((((((⟨#[9, 105, 102, 32]⟩ : ByteArray) ++ x3_1) ++ t131) ++ t132) ++ (⟨#[32, 116, 104, 101, 110]⟩ : ByteArray)) ++ x4_8) ++ t133) ++ t134) ++ t136).size + t138.size ≤ 9223372036854775807 then (if ((((((((((⟨#[9, 105, 102, 32]⟩ : ByteArray) ++ x3_1) ++ t131) ++ t132) ++ (⟨#[32, 116, 104, 101, 110]⟩ : ByteArray)) ++ x4_8) ++ t133) ++ t134) ++ t136) ++ t138).size + 2 ≤ 9223372036854775807 then (some (((((((((((⟨#[9, 105, 102, 32]⟩ : ByteArray) ++ x3_1) ++ t131) ++ t132) ++ (⟨#[32, 116, 104, 101, 110]⟩ : ByteArray)) ++ x4_8) ++ t133) ++ t134) ++ t136) ++ t138) ++ (⟨#[59, 10]⟩ : ByteArray))) else (none)) else (none)) = some r := H
             have A27 := Aside0.mk A270
             clear A270
             by_cases c28 : (((((((((⟨#[9, 105, 102, 32]⟩ : ByteArray) ++ x3_1) ++ t131) ++ t132) ++ (⟨#[32, 116, 104, 101, 110]⟩ : ByteArray)) ++ x4_8) ++ t133) ++ t134) ++ t136).size + t138.size ≤ 9223372036854775807
             ·rw [if_pos c28] at H
              have c28b0 := eq_true c28
              have c28b1 := decide_eq_true c28
              try have c28b2 := eq_false (Nat.not_lt.2 c28)
              try have c28b3 : (9223372036854775807 < 4 + x3_1.size + t131.size + t132.size + 5 + x4_8.size + t133.size + t134.size + t136.size + t138.size) = False := by (have h_ := c28; simp only [ByteArray.size_append] at h_; exact eq_false (Nat.not_lt.2 h_))
              by_cases c29 : ((((((((((⟨#[9, 105, 102, 32]⟩ : ByteArray) ++ x3_1) ++ t131) ++ t132) ++ (⟨#[32, 116, 104, 101, 110]⟩ : ByteArray)) ++ x4_8) ++ t133) ++ t134) ++ t136) ++ t138).size + 2 ≤ 9223372036854775807
              ·rw [if_pos c29] at H
               have c29b0 := eq_true c29
               have c29b1 := decide_eq_true c29
               try have c29b2 := eq_false (Nat.not_lt.2 c29)
               try have c29b3 : (9223372036854775807 < 4 + x3_1.size + t131.size + t132.size + 5 + x4_8.size + t133.size + t134.size + t136.size + t138.size + 2) = False := by (have h_ := c29; simp only [ByteArray.size_append] at h_; exact eq_false (Nat.not_lt.2 h_))
               obtain rfl := Option.some.inj H
               try go_wp2
               replace BK129 := Aside0.mk (blk_drew BK129.out)
               replace HB := Aside0.mk (below_drew1 HB.out)
               refine start_ (n := 33) (S := fun w' => CE10 w' gb129 (.bool a0_0) (.int .u32 a0_1) (.int .i64 a0_2) (.int .u8 a0_3) (.int .u8 a0_4) (.bool a0_5) (.int .u8 a0_6) (.int .u8 a0_7) (.int .i64 a0_8) (.int .i64 a0_9)) (ds := []) #[false, false, false, false, false, false, false, false, false, false, false, false, false, false, false, false, false, false, false, false, false, false, false, false, false, false, false, false, false, false, false, false, false] (by kernel_rfl) rfl rfl (he10 BK129) (fun hHeld => ?_); refine with_tabW maquettelaw07_line.tab6 maquettelaw07_line.bits6 (fun HT_ HW_ => ?_)
               generalize wc.drew = w30 at BK129 HB hHeld ⊢
               refine pu HT_ 0 (some 13) (mk 33 1) ?_
               refine pu HT_ 1 (some 14) (mk 33 3) ?_
               refine pu HT_ 2 (some 15) (mk 33 7) ?_
               refine pu HT_ 6 (some 19) (mk 33 71) ?_
               refine pu HT_ 11 (some 24) (mk 33 2119) ?_
               refine pu HT_ 13 (some 26) (mk 33 10311) ?_
               refine pu HT_ 17 (some 30) (mk 33 141383) ?_
               refine pu HT_ 21 (some 34) (mk 33 2238535) ?_
               refine pu HT_ 26 (some 39) (mk 33 69347399) ?_
               refine tk HT_ HW_ 3 (some 16) (mk 33 69347407) hHeld ?_
               refine tk HT_ HW_ 7 (some 20) (mk 33 69347535) hHeld ?_
               refine tk HT_ HW_ 14 (some 27) (mk 33 69363919) hHeld ?_
               refine tk HT_ HW_ 18 (some 31) (mk 33 69626063) hHeld ?_
               refine tk HT_ HW_ 22 (some 35) (mk 33 73820367) hHeld ?_
               refine tk HT_ HW_ 27 (some 40) (mk 33 208038095) hHeld ?_
               refine on HT_ 4 (some 17) (mk 33 208038111) fun K hK => ?_
               refine go1 Tryd.func31 #[.string (⟨#[119, 105, 116, 104]⟩ : ByteArray), .int .u8 a0_3] ?_
               with_reducible refine (maquettelaw07_tags.calls kj8 (⟨#[119, 105, 116, 104]⟩ : ByteArray) a0_3 t131 _ A13.out).mono ?_
               rintro e w' ⟨rfl, ⟨nd, rfl⟩⟩
               refine ⟨_, rfl, ?_⟩
               refine hK.out _ _ (he10 BK129) (fun hHeld => ?_)
               clear hK K
               refine nm (some 17) ?_
               refine pu HT_ 5 (some 18) (mk 33 208038143) ?_
               refine on HT_ 8 (some 21) (mk 33 208038399) fun K hK => ?_
               refine go1 Tryd.func31 #[.string (⟨#[111, 117, 116]⟩ : ByteArray), .int .u8 a0_4] ?_
               with_reducible refine (maquettelaw07_tags.calls kj8 (⟨#[111, 117, 116]⟩ : ByteArray) a0_4 t132 _ A15.out).mono ?_
               rintro e w' ⟨rfl, ⟨nd, rfl⟩⟩
               refine ⟨_, rfl, ?_⟩
               refine hK.out _ _ (he10 BK129) (fun hHeld => ?_)
               clear hK K
               refine nm (some 21) ?_
               refine pu HT_ 9 (some 22) (mk 33 208038911) ?_
               refine pu HT_ 10 (some 23) (mk 33 208039935) ?_
               refine pu HT_ 12 (some 25) (mk 33 208044031) ?_
               refine on HT_ 15 (some 28) (mk 33 208076799) fun K hK => ?_
               refine go1 Tryd.func31 #[.string (⟨#[115, 101, 116]⟩ : ByteArray), .int .u8 a0_6] ?_
               with_reducible refine (maquettelaw07_tags.calls kj8 (⟨#[115, 101, 116]⟩ : ByteArray) a0_6 t133 _ A19.out).mono ?_
               rintro e w' ⟨rfl, ⟨nd, rfl⟩⟩
               refine ⟨_, rfl, ?_⟩
               refine hK.out _ _ (he10 BK129) (fun hHeld => ?_)
               clear hK K
               refine nm (some 28) ?_
               refine pu HT_ 16 (some 29) (mk 33 208142335) ?_
               refine on HT_ 19 (some 32) (mk 33 208666623) fun K hK => ?_
               refine go1 Tryd.func31 #[.string (⟨#[99, 108, 101, 97, 114]⟩ : ByteArray), .int .u8 a0_7] ?_
               with_reducible refine (maquettelaw07_tags.calls kj8 (⟨#[99, 108, 101, 97, 114]⟩ : ByteArray) a0_7 t134 _ A21.out).mono ?_
               rintro e w' ⟨rfl, ⟨nd, rfl⟩⟩
               refine ⟨_, rfl, ?_⟩
               refine hK.out _ _ (he10 BK129) (fun hHeld => ?_)
               clear hK K
               refine nm (some 32) ?_
               refine pu HT_ 20 (some 33) (mk 33 209715199) ?_
               refine on HT_ 23 (some 36) (mk 33 218103807) fun K hK => ?_
               refine go1 Tryd.func24 #[.int .i64 a0_8] ?_
               with_reducible refine (maquettelaw07_digits.calls kj8 a0_8 t135 _ A23.out).mono ?_
               rintro e w' ⟨rfl, ⟨nd, rfl⟩⟩
               refine ⟨_, rfl, ?_⟩
               refine hK.out _ _ (he10 BK129) (fun hHeld => ?_)
               clear hK K
               refine nm (some 36) ?_
               refine on HT_ 24 (some 37) (mk 33 234881023) fun K hK => ?_
               refine go1 Tryd.func32 #[.string (⟨#[109, 111, 114, 101]⟩ : ByteArray), .string t135] ?_
               with_reducible refine (maquettelaw07_named.calls (⟨#[109, 111, 114, 101]⟩ : ByteArray) t135 t136 _ A24.out).mono ?_
               rintro e w' ⟨rfl, ⟨nd, rfl⟩⟩
               refine ⟨_, rfl, ?_⟩
               refine hK.out _ _ (he10 BK129) (fun hHeld => ?_)
               clear hK K
               refine nm (some 37) ?_
               refine pu HT_ 25 (some 38) (mk 33 268435455) ?_
               refine on HT_ 28 (some 41) (mk 33 536870911) fun K hK => ?_
               refine go1 Tryd.func24 #[.int .i64 a0_9] ?_
               with_reducible refine (maquettelaw07_digits.calls kj8 a0_9 t137 _ A26.out).mono ?_
               rintro e w' ⟨rfl, ⟨nd, rfl⟩⟩
               refine ⟨_, rfl, ?_⟩
               refine hK.out _ _ (he10 BK129) (fun hHeld => ?_)
               clear hK K
               refine nm (some 41) ?_
               refine on HT_ 29 (some 42) (mk 33 1073741823) fun K hK => ?_
               refine go1 Tryd.func32 #[.string (⟨#[112, 114, 101, 102]⟩ : ByteArray), .string t137] ?_
               with_reducible refine (maquettelaw07_named.calls (⟨#[112, 114, 101, 102]⟩ : ByteArray) t137 t138 _ A27.out).mono ?_
               rintro e w' ⟨rfl, ⟨nd, rfl⟩⟩
               refine ⟨_, rfl, ?_⟩
               refine hK.out _ _ (he10 BK129) (fun hHeld => ?_)
               clear hK K
               refine nm (some 42) ?_
               refine pu HT_ 30 (some 43) (mk 33 2147483647) ?_
               refine pu HT_ 31 (some 44) (mk 33 4294967295) ?_
               refine pu HT_ 32 (some 2) (mk 33 8589934591) ?_
               refine done_ (done_of HT_.out (by kernel_rfl)) ?_
               try go_wp2
               go_ret
               exact ⟨by first | rfl | (simp [errW_none, errW_some] <;> rfl) | (simp [*, errW_none, errW_some] <;> rfl), by repeat (first | (with_reducible first | exact HB.out | apply below_alloc | apply pw_below_drewN | apply below_drew1 | refine below_set ?_ GE129.out) | exact HB.out)⟩
              ·rw [if_neg c29] at H
               exact absurd H (by simp)
             ·rw [if_neg c28] at H
              exact absurd H (by simp)
            ·rw [if_neg c25] at H
             exact absurd H (by simp)
           ·rw [if_neg c22] at H
            exact absurd H (by simp)
          ·rw [if_neg c20] at H
           exact absurd H (by simp)
         ·rw [if_neg c18] at H
          exact absurd H (by simp)
        ·rw [if_neg c17] at H
         exact absurd H (by simp)
       ·rw [if_neg c16] at H
        exact absurd H (by simp)
      ·rw [if_neg c14] at H
       exact absurd H (by simp)
     ·rw [if_neg c12] at H
      exact absurd H (by simp)

end Go.Proofs.YtjcopneljfcfoaaDoor.PRaw
