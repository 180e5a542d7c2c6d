-- Written by wip/xprint.py of this work: the printer of the kit, with contracts of this work beside it, shortened.
import Derived.Test.YtjcopneljfcfoaaDoorShort
import Derived.Test.YtjcopneljfcfoaaDoorPRawx0
import Derived.Test.YtjcopneljfcfoaaDoorPRawx5
import Derived.Test.YtjcopneljfcfoaaDoorPRawx6
import Derived.Test.YtjcopneljfcfoaaDoorPRawx7
namespace Go.Proofs.YtjcopneljfcfoaaDoor.PRaw
open Go.RowKit Go.Proofs.YtjcopneljfcfoaaDoor.Short Go.Proofs.YtjcopneljfcfoaaDoorW.PrintWords Go.Proofs.YtjcopneljfcfoaaDoorW.PrintLast Go.Proofs.YtjcopneljfcfoaaDoorW.PrintMore
attribute [local go_sem] max2_int min2_int max_two min_two max_three min_three max_four min_four   -- for this text's walks alone
set_option linter.unusedVariables false
set_option linter.unusedSimpArgs false

/-! ### text_Clause: function 13 -/
mutual
def text_Clause.j0 : Nat → ByteArray → Bool → Int → Int → Int → Int → Bool → Int → Int → Int → Int → Option (ByteArray)
 | 0, _, _, _, _, _, _, _, _, _, _, _ => none
 | k + 1, x3, x114000, x114001, x114002, x114003, x114004, x114005, x114006, x114007, x114008, x114009 => (text_tags.f k (⟨#[119, 105, 116, 104]⟩ : ByteArray) x114003).bind fun t115 => ((text_tags.f k (⟨#[111, 117, 116]⟩ : ByteArray) x114004).bind fun t116 => (if t115.size + t116.size ≤ 9223372036854775807 then (if (t115 ++ t116).size + 5 ≤ 9223372036854775807 then (if x3.size + ((t115 ++ t116) ++ (⟨#[32, 116, 104, 101, 110]⟩ : ByteArray)).size ≤ 9223372036854775807 then (if x114005 = true then (if (x3 ++ ((t115 ++ t116) ++ (⟨#[32, 116, 104, 101, 110]⟩ : ByteArray))).size + 5 ≤ 9223372036854775807 then (text_Clause.j1 k ((x3 ++ ((t115 ++ t116) ++ (⟨#[32, 116, 104, 101, 110]⟩ : ByteArray))) ++ (⟨#[32, 100, 114, 111, 112]⟩ : ByteArray)) x114000 x114001 x114002 x114003 x114004 x114005 x114006 x114007 x114008 x114009) else (none)) else (text_Clause.j1 k (x3 ++ ((t115 ++ t116) ++ (⟨#[32, 116, 104, 101, 110]⟩ : ByteArray))) x114000 x114001 x114002 x114003 x114004 x114005 x114006 x114007 x114008 x114009)) else (none)) else (none)) else (none)))
def text_Clause.j1 : Nat → ByteArray → Bool → Int → Int → Int → Int → Bool → Int → Int → Int → Int → Option (ByteArray)
 | 0, _, _, _, _, _, _, _, _, _, _, _ => none
 | k + 1, x3, x114000, x114001, x114002, x114003, x114004, x114005, x114006, x114007, x114008, x114009 => (text_tags.f k (⟨#[115, 101, 116]⟩ : ByteArray) x114006).bind fun t117 => (if x3.size + t117.size ≤ 9223372036854775807 then ((text_tags.f k (⟨#[99, 108, 101, 97, 114]⟩ : ByteArray) x114007).bind fun t118 => (if (x3 ++ t117).size + t118.size ≤ 9223372036854775807 then ((text_number.f (⟨#[109, 111, 114, 101]⟩ : ByteArray) x114008).bind fun t119 => (if ((x3 ++ t117) ++ t118).size + t119.size ≤ 9223372036854775807 then ((text_number.f (⟨#[112, 114, 101, 102]⟩ : ByteArray) x114009).bind fun t120 => (if (((x3 ++ t117) ++ t118) ++ t119).size + t120.size ≤ 9223372036854775807 then (if ((((x3 ++ t117) ++ t118) ++ t119) ++ t120).size + 2 ≤ 9223372036854775807 then (some (((((x3 ++ t117) ++ t118) ++ t119) ++ t120) ++ (⟨#[59, 10]⟩ : ByteArray))) else (none)) else (none))) else (none))) else (none))) else (none))
end
def text_Clause.f (k : Nat) (a0_0 : Bool) (a0_1 : Int) (a0_2 : Int) (a0_3 : Int) (a0_4 : Int) (a0_5 : Bool) (a0_6 : Int) (a0_7 : Int) (a0_8 : Int) (a0_9 : Int) : Option (ByteArray) := if a0_0 = true then (text_Clause.j0 k (⟨#[9, 105, 102, 32, 97, 110, 121]⟩ : ByteArray) a0_0 a0_1 a0_2 a0_3 a0_4 a0_5 a0_6 a0_7 a0_8 a0_9) else ((prefix_Text.f k a0_1 a0_2).bind fun t114 => (if 4 + t114.size ≤ 9223372036854775807 then (text_Clause.j0 k ((⟨#[9, 105, 102, 32]⟩ : ByteArray) ++ t114) a0_0 a0_1 a0_2 a0_3 a0_4 a0_5 a0_6 a0_7 a0_8 a0_9) else (none)))
theorem text_Clause.mono_l : ∀ k, (∀ y0 y1 y2 y3 y4 y5 y6 y7 y8 y9 y10, LeO (text_Clause.j0 k y0 y1 y2 y3 y4 y5 y6 y7 y8 y9 y10) (text_Clause.j0 (k + 1) y0 y1 y2 y3 y4 y5 y6 y7 y8 y9 y10)) ∧ (∀ y0 y1 y2 y3 y4 y5 y6 y7 y8 y9 y10, LeO (text_Clause.j1 k y0 y1 y2 y3 y4 y5 y6 y7 y8 y9 y10) (text_Clause.j1 (k + 1) y0 y1 y2 y3 y4 y5 y6 y7 y8 y9 y10))
 | 0 => ⟨fun _ _ _ _ _ _ _ _ _ _ _ r h => by simp [text_Clause.j0] at h, fun _ _ _ _ _ _ _ _ _ _ _ r h => by simp [text_Clause.j1] at h⟩
 | k + 1 => by
  obtain ⟨ih0, ih1⟩ := text_Clause.mono_l k
  refine ⟨?_, ?_⟩<;> intros <;> (first | unfold text_Clause.j0 | unfold text_Clause.j1) <;> repeat' first
   | (with_reducible exact ih0 _ _ _ _ _ _ _ _ _ _ _)
   | (with_reducible exact ih1 _ _ _ _ _ _ _ _ _ _ _)
   | (with_reducible exact prefix_Text.mono _ _ _)
   | (with_reducible exact text_tags.mono _ _ _)
   | (with_reducible exact LeO.refl _)
   | (with_reducible exact LeO.none _)
   | (with_reducible refine LeO.ite ?_ ?_)
   | (with_reducible refine LeO.bind ?_ (fun _ => ?_))
   | exact ih0 _ _ _ _ _ _ _ _ _ _ _
   | exact ih1 _ _ _ _ _ _ _ _ _ _ _
   | exact prefix_Text.mono _ _ _
   | exact text_tags.mono _ _ _
   | exact LeO.none _
   | refine LeO.ite ?_ ?_
   | refine LeO.bind ?_ (fun _ => ?_)
theorem text_Clause.mono : ∀ a0 a1 a2 a3 a4 a5 a6 a7 a8 a9 k, LeO (text_Clause.f k a0 a1 a2 a3 a4 a5 a6 a7 a8 a9) (text_Clause.f (k + 1) a0 a1 a2 a3 a4 a5 a6 a7 a8 a9) := by
 intro a0 a1 a2 a3 a4 a5 a6 a7 a8 a9 k
 obtain ⟨ih0, ih1⟩ := text_Clause.mono_l k
 unfold text_Clause.f
 repeat' first
   | (with_reducible exact ih0 _ _ _ _ _ _ _ _ _ _ _)
   | (with_reducible exact ih1 _ _ _ _ _ _ _ _ _ _ _)
   | (with_reducible exact prefix_Text.mono _ _ _)
   | (with_reducible exact text_tags.mono _ _ _)
   | (with_reducible exact LeO.refl _)
   | (with_reducible exact LeO.none _)
   | (with_reducible refine LeO.ite ?_ ?_)
   | (with_reducible refine LeO.bind ?_ (fun _ => ?_))
   | exact ih0 _ _ _ _ _ _ _ _ _ _ _
   | exact ih1 _ _ _ _ _ _ _ _ _ _ _
   | exact prefix_Text.mono _ _ _
   | exact text_tags.mono _ _ _
   | exact LeO.none _
   | refine LeO.ite ?_ ?_
   | refine LeO.bind ?_ (fun _ => ?_)
def text_Clause.T4 : Bool × List (List Nat × List Nat) := (true, [([], []), ([], []), ([1], [1]), ([2], [2]), ([], []), ([4], [4]), ([5, 3], [5]), ([3, 6], [3, 6]), ([7], [7]), ([0, 8], [0, 8]), ([9, 6, 0, 1, 2, 3, 4, 5, 6, 7, 8, 9], [0, 9])])
def text_Clause.B4 : List Nat := [0, 0, 2, 6, 0, 16, 62, 126, 254, 511, 1023]
theorem text_Clause.tab4 : rtab .any (opsOf Tryd.f13 4) = text_Clause.T4 := by kernel_rfl
theorem text_Clause.bits4 : waitsOk text_Clause.T4.2 text_Clause.B4 = true := by kernel_rfl
def text_Clause.T7 : Bool × List (List Nat × List Nat) := (true, [([], []), ([], []), ([1], [1]), ([2], [2]), ([0, 3], [0, 3]), ([], []), ([5], [5]), ([6, 3], [6]), ([4, 7], [4, 7]), ([], []), ([9], [9]), ([10, 7], [10]), ([8, 11], [8, 11]), ([], []), ([13], [13]), ([14, 11], [14]), ([12, 15], [12, 15]), ([16], [16]), ([17, 15, 0, 1, 2, 3, 4, 5, 6, 7, 8, 9, 10, 11, 12, 13, 14, 15, 16, 17], [17])])
def text_Clause.B7 : List Nat := [0, 0, 2, 6, 15, 0, 32, 110, 255, 0, 512, 1774, 4095, 0, 8192, 28398, 65535, 131071, 262143]
theorem text_Clause.tab7 : rtab .any (opsOf Tryd.f13 7) = text_Clause.T7 := by kernel_rfl
theorem text_Clause.bits7 : waitsOk text_Clause.T7.2 text_Clause.B7 = true := by kernel_rfl
set_option maxHeartbeats 8000000 in
set_option maxRecDepth 100000 in
theorem text_Clause.calls (k : Nat) (a0_0 : Bool) (a0_1 : Int) (a0_2 : Int) (a0_3 : Int) (a0_4 : Int) (a0_5 : Bool) (a0_6 : Int) (a0_7 : Int) (a0_8 : Int) (a0_9 : Int) (r : ByteArray) (w : World) (h : text_Clause.f k a0_0 a0_1 a0_2 a0_3 a0_4 a0_5 a0_6 a0_7 a0_8 a0_9 = some r) (hInv : Go.Proofs.YtjcopneljfcfoaaDoor.Inv.Inv w) :
  Calls Tryd.prog 13 #[.agg #[.bool a0_0, .int .u32 a0_1, .int .i64 a0_2, .int .u8 a0_3, .int .u8 a0_4, .bool a0_5, .int .u8 a0_6, .int .u8 a0_7, .int .i64 a0_8, .int .i64 a0_9]] w fun e w' => e = .returned (.string r) ∧ Below w.heap.size w w' := by
 have hu41 := Tryd.underlying41
 have hu39 := Tryd.underlying39
 have HB := Aside0.mk (Below.refl w.heap.size w)
 have H : (if a0_0 = true then (text_Clause.j0 k (⟨#[9, 105, 102, 32, 97, 110, 121]⟩ : ByteArray) a0_0 a0_1 a0_2 a0_3 a0_4 a0_5 a0_6 a0_7 a0_8 a0_9) else ((prefix_Text.f k a0_1 a0_2).bind fun t114 => (if 4 + t114.size ≤ 9223372036854775807 then (text_Clause.j0 k ((⟨#[9, 105, 102, 32]⟩ : ByteArray) ++ t114) a0_0 a0_1 a0_2 a0_3 a0_4 a0_5 a0_6 a0_7 a0_8 a0_9) else (none)))) = some r := h
 clear h
 have HC2 := Aside0.mk H
 clear H
 go_enter Tryd.func13, Tryd.ntmps13
 go_upto_if 6 with (first | ((with_reducible refine gate_dst (N := 1) rfl ?_); refine bx 1 (cs := #[.bool a0_0, .int .u32 a0_1, .int .i64 a0_2, .int .u8 a0_3, .int .u8 a0_4, .bool a0_5, .int .u8 a0_6, .int .u8 a0_7, .int .i64 a0_8, .int .i64 a0_9]) (t := 41) (h := ?_); intro gb113 hg w3 hbox hb; have BK113 := Aside0.mk hbox; have GW113 : Aside0 (w.heap.size ≤ gb113) := bge hg; have GE113 : Aside0 (w.heap.size ≤ gb113) := bge hg; replace HB := bst hb; clear hb hbox hg; obtain ⟨hcz4_0, hcz4_1, hcz4_2, hcz4_3, hcz4_4, hcz4_5, hcz4_6, hcz4_7, hcz4_8, hcz4_9, hfz4_0, hfz4_1, hfz4_2, hfz4_3, hfz4_4, hfz4_5, hfz4_6, hfz4_7, hfz4_8, hfz4_9⟩ := bc10 BK113))
 (try simp only [Act.put, List.setIfInBounds_toArray, List.set_cons_zero, List.set_cons_succ])
 go_cut [3] (fun v3 wc => ∃ (kq : Nat) (x3_1 : ByteArray), v3 = .string x3_1 ∧ Aside0 (text_Clause.j0 kq x3_1 a0_0 a0_1 a0_2 a0_3 a0_4 a0_5 a0_6 a0_7 a0_8 a0_9 = some r) ∧ Aside0 (kq ≤ k) ∧ Aside0 (wc.heap[gb113]? = some (.cells #[.bool a0_0, .int .u32 a0_1, .int .i64 a0_2, .int .u8 a0_3, .int .u8 a0_4, .bool a0_5, .int .u8 a0_6, .int .u8 a0_7, .int .i64 a0_8, .int .i64 a0_9] 41 (0, 0))) ∧ Aside0 (Below w.heap.size w wc))
 case first =>
  have H := HC2.out
  clear HC2
  by_cases c5 : a0_0 = true
  ·subst c5
   have H1 : (text_Clause.j0 k (⟨#[9, 105, 102, 32, 97, 110, 121]⟩ : ByteArray) true a0_1 a0_2 a0_3 a0_4 a0_5 a0_6 a0_7 a0_8 a0_9) = some r := by rw [if_pos rfl] at H; exact H
   clear H
   have H := H1
   clear H1
   have H' := Aside0.mk H
   clear H
   go_wp2
   go_meet
   case rel => exact ⟨_, ((⟨#[9, 105, 102, 32, 97, 110, 121]⟩ : ByteArray)), (by first | rfl | (simp; done) | (simp [*]; done)), H', ⟨by first | omega | exact Nat.le_refl _⟩, ⟨bkq BK113⟩, ⟨by repeat (first | (with_reducible first | exact HB.out | apply below_alloc | apply pw_below_drewN | apply below_drew1 | refine below_set ?_ GE113.out) | exact HB.out)⟩⟩
  ·replace c5 := Bool.eq_false_iff.mpr c5
   subst c5
   have H1 : ((prefix_Text.f k a0_1 a0_2).bind fun t114 => (if 4 + t114.size ≤ 9223372036854775807 then (text_Clause.j0 k ((⟨#[9, 105, 102, 32]⟩ : ByteArray) ++ t114) false a0_1 a0_2 a0_3 a0_4 a0_5 a0_6 a0_7 a0_8 a0_9) else (none))) = some r := by rw [if_neg (show ¬ (false = true) by decide)] at H; exact H
   clear H
   have H := H1
   clear H1
   replace H := Option.bind_eq_some_iff.mp H
   obtain ⟨t114, A60, H⟩ := H
   replace H : (if 4 + t114.size ≤ 9223372036854775807 then (text_Clause.j0 k ((⟨#[9, 105, 102, 32]⟩ : ByteArray) ++ t114) false a0_1 a0_2 a0_3 a0_4 a0_5 a0_6 a0_7 a0_8 a0_9) else (none)) = some r := H
   have A6 := Aside0.mk A60
   clear A60
   by_cases c7 : 4 + t114.size ≤ 9223372036854775807
   ·rw [if_pos c7] at H
    have c7b0 := eq_true c7
    have c7b1 := decide_eq_true c7
    try have c7b2 := eq_false (Nat.not_lt.2 c7)
    have H' := Aside0.mk H
    clear H
    obtain ⟨hcz8_0, hcz8_1, hcz8_2, hcz8_3, hcz8_4, hcz8_5, hcz8_6, hcz8_7, hcz8_8, hcz8_9, hfz8_0, hfz8_1, hfz8_2, hfz8_3, hfz8_4, hfz8_5, hfz8_6, hfz8_7, hfz8_8, hfz8_9⟩ := bc10 BK113
    go_wp2_with (first | ((with_reducible refine gate_dst (N := 9) rfl ?_); refine gl (some 9) Tryd.func23 #[.agg #[.int .u32 a0_1, .int .i64 a0_2]] ?_; (with_reducible refine (prefix_Text.calls k a0_1 a0_2 t114 _ A6.out (Go.Proofs.YtjcopneljfcfoaaDoor.Inv.ivb hInv)).mono ?_); rintro e w9 ⟨rfl, hb⟩; refine ⟨_, rfl, ?_⟩; replace BK113 := bkb BK113 hb; replace HB := bst hb; (try clear hb); (try clear hb2); (try clear hk); (try clear hi)))
    go_meet
    case rel => exact ⟨_, ((⟨#[9, 105, 102, 32]⟩ : ByteArray) ++ t114), (by first | rfl | (simp; done) | (simp [*]; done)), H', ⟨by first | omega | exact Nat.le_refl _⟩, ⟨bkq BK113⟩, ⟨by repeat (first | (with_reducible first | exact HB.out | apply below_alloc | apply pw_below_drewN | apply below_drew1 | refine below_set ?_ GE113.out) | exact HB.out)⟩⟩
   ·rw [if_neg c7] at H
    exact absurd H (by simp)
 case rest =>
  clear HC2
  try clear c1
  try clear c2
  try clear p2
  try clear c5
  try clear c7
  try clear c7b0
  try clear c7b1
  try clear c7b2
  try clear hcz4_0 hcz4_1 hcz4_2 hcz4_3 hcz4_4 hcz4_5 hcz4_6 hcz4_7 hcz4_8 hcz4_9 hfz4_0 hfz4_1 hfz4_2 hfz4_3 hfz4_4 hfz4_5 hfz4_6 hfz4_7 hfz4_8 hfz4_9
  try clear hcz8_0 hcz8_1 hcz8_2 hcz8_3 hcz8_4 hcz8_5 hcz8_6 hcz8_7 hcz8_8 hcz8_9 hfz8_0 hfz8_1 hfz8_2 hfz8_3 hfz8_4 hfz8_5 hfz8_6 hfz8_7 hfz8_8 hfz8_9
  obtain ⟨kq, x3_1, rfl, HA, HJ1, BK113, HB⟩ := hcut
  cases kq with
  | zero => exact absurd HA.out (by simp [text_Clause.j0])
  | succ kj1 =>
   have H := HA.out
   clear HA
   simp only [text_Clause.j0] at H
   replace H := Option.bind_eq_some_iff.mp H
   obtain ⟨t115, A100, H⟩ := H
   replace H : ((text_tags.f kj1 (⟨#[111, 117, 116]⟩ : ByteArray) a0_4).bind fun t116 => (if t115.size + t116.size ≤ 9223372036854775807 then (if (t115 ++ t116).size + 5 ≤ 9223372036854775807 then (if x3_1.size + ((t115 ++ t116) ++ (⟨#[32, 116, 104, 101, 110]⟩ : ByteArray)).size ≤ 9223372036854775807 then (if a0_5 = true then (if (x3_1 ++ ((t115 ++ t116) ++ (⟨#[32, 116, 104, 101, 110]⟩ : ByteArray))).size + 5 ≤ 9223372036854775807 then (text_Clause.j1 kj1 ((x3_1 ++ ((t115 ++ t116) ++ (⟨#[32, 116, 104, 101, 110]⟩ : ByteArray))) ++ (⟨#[32, 100, 114, 111, 112]⟩ : ByteArray)) a0_0 a0_1 a0_2 a0_3 a0_4 a0_5 a0_6 a0_7 a0_8 a0_9) else (none)) else (text_Clause.j1 kj1 (x3_1 ++ ((t115 ++ t116) ++ (⟨#[32, 116, 104, 101, 110]⟩ : ByteArray))) a0_0 a0_1 a0_2 a0_3 a0_4 a0_5 a0_6 a0_7 a0_8 a0_9)) else (none)) else (none)) else (none))) = some r := H
   have A10 := Aside0.mk A100
   clear A100
   replace H := Option.bind_eq_some_iff.mp H
   obtain ⟨t116, A110, H⟩ := H
   replace H : (if t115.size + t116.size ≤ 9223372036854775807 then (if (t115 ++ t116).size + 5 ≤ 9223372036854775807 then (if x3_1.size + ((t115 ++ t116) ++ (⟨#[32, 116, 104, 101, 110]⟩ : ByteArray)).size ≤ 9223372036854775807 then (if a0_5 = true then (if (x3_1 ++ ((t115 ++ t116) ++ (⟨#[32, 116, 104, 101, 110]⟩ : ByteArray))).size + 5 ≤ 9223372036854775807 then (text_Clause.j1 kj1 ((x3_1 ++ ((t115 ++ t116) ++ (⟨#[32, 116, 104, 101, 110]⟩ : ByteArray))) ++ (⟨#[32, 100, 114, 111, 112]⟩ : ByteArray)) a0_0 a0_1 a0_2 a0_3 a0_4 a0_5 a0_6 a0_7 a0_8 a0_9) else (none)) else (text_Clause.j1 kj1 (x3_1 ++ ((t115 ++ t116) ++ (⟨#[32, 116, 104, 101, 110]⟩ : ByteArray))) a0_0 a0_1 a0_2 a0_3 a0_4 a0_5 a0_6 a0_7 a0_8 a0_9)) else (none)) else (none)) else (none)) = some r := H
   have A11 := Aside0.mk A110
   clear A110
   by_cases c12 : t115.size + t116.size ≤ 9223372036854775807
   ·rw [if_pos c12] at H
    have c12b0 := eq_true c12
    have c12b1 := decide_eq_true c12
    try have c12b2 := eq_false (Nat.not_lt.2 c12)
    by_cases c13 : (t115 ++ t116).size + 5 ≤ 9223372036854775807
    ·rw [if_pos c13] at H
     have c13b0 := eq_true c13
     have c13b1 := decide_eq_true c13
     try have c13b2 := eq_false (Nat.not_lt.2 c13)
     try have c13b3 : (9223372036854775807 < t115.size + t116.size + 5) = False := by (have h_ := c13; simp only [ByteArray.size_append] at h_; exact eq_false (Nat.not_lt.2 h_))
     by_cases c14 : x3_1.size + ((t115 ++ t116) ++ (⟨#[32, 116, 104, 101, 110]⟩ : ByteArray)).size ≤ 9223372036854775807
     ·rw [if_pos c14] at H
      have c14b0 := eq_true c14
      have c14b1 := decide_eq_true c14
      try have c14b2 := eq_false (Nat.not_lt.2 c14)
      try have c14b3 : (9223372036854775807 < x3_1.size + (t115.size + t116.size + 5)) = False := by (have h_ := c14; simp only [ByteArray.size_append] at h_; exact eq_false (Nat.not_lt.2 h_))
      have HC15 := Aside0.mk H
      clear H
      try go_wp2
      replace BK113 := Aside0.mk (blk_drew BK113.out)
      replace HB := Aside0.mk (below_drew1 HB.out)
      refine start_ (n := 11) (S := fun w' => CE10 w' gb113 (.bool a0_0) (.int .u32 a0_1) (.int .i64 a0_2) (.int .u8 a0_3) (.int .u8 a0_4) (.bool a0_5) (.int .u8 a0_6) (.int .u8 a0_7) (.int .i64 a0_8) (.int .i64 a0_9)) (ds := []) #[false, false, false, false, false, false, false, false, false, false, false] (by kernel_rfl) rfl rfl (he10 BK113) (fun hHeld => ?_); refine with_tabW text_Clause.tab4 text_Clause.bits4 (fun HT_ HW_ => ?_)
      generalize wc.drew = w16 at BK113 HB hHeld ⊢
      refine pu HT_ 0 (some 11) (mk 11 1) ?_
      refine pu HT_ 1 (some 12) (mk 11 3) ?_
      refine pu HT_ 4 (some 15) (mk 11 19) ?_
      refine tk HT_ HW_ 2 (some 13) (mk 11 23) hHeld ?_
      refine tk HT_ HW_ 5 (some 16) (mk 11 55) hHeld ?_
      refine on HT_ 3 (some 14) (mk 11 63) fun K hK => ?_
      refine go1 Tryd.func25 #[.string (⟨#[119, 105, 116, 104]⟩ : ByteArray), .int .u8 a0_3] ?_
      with_reducible refine (text_tags.calls kj1 (⟨#[119, 105, 116, 104]⟩ : ByteArray) a0_3 t115 _ A10.out (Go.Proofs.YtjcopneljfcfoaaDoor.Inv.ivb hInv)).mono ?_
      rintro e w17 ⟨rfl, hb⟩
      refine ⟨_, rfl, ?_⟩
      replace BK113 := bkb BK113 hb
      replace HB := bst hb
      (try clear hb)
      (try clear hb2)
      (try clear hk)
      (try clear hi)
      refine hK.out _ _ (he10 BK113) (fun hHeld => ?_)
      clear hK K
      refine nm (some 14) ?_
      refine on HT_ 6 (some 17) (mk 11 127) fun K hK => ?_
      refine go1 Tryd.func25 #[.string (⟨#[111, 117, 116]⟩ : ByteArray), .int .u8 a0_4] ?_
      with_reducible refine (text_tags.calls kj1 (⟨#[111, 117, 116]⟩ : ByteArray) a0_4 t116 _ A11.out (Go.Proofs.YtjcopneljfcfoaaDoor.Inv.ivb hInv)).mono ?_
      rintro e w18 ⟨rfl, hb⟩
      refine ⟨_, rfl, ?_⟩
      replace BK113 := bkb BK113 hb
      replace HB := bst hb
      (try clear hb)
      (try clear hb2)
      (try clear hk)
      (try clear hi)
      refine hK.out _ _ (he10 BK113) (fun hHeld => ?_)
      clear hK K
      refine nm (some 17) ?_
      refine pu HT_ 7 (some 18) (mk 11 255) ?_
      refine pu HT_ 8 (some 19) (mk 11 511) ?_
      refine pu HT_ 9 (some 20) (mk 11 1023) ?_
      refine pu HT_ 10 (some 3) (mk 11 2047) ?_
      refine done_ (done_of HT_.out (by kernel_rfl)) ?_
      obtain ⟨hcz19_0, hcz19_1, hcz19_2, hcz19_3, hcz19_4, hcz19_5, hcz19_6, hcz19_7, hcz19_8, hcz19_9, hfz19_0, hfz19_1, hfz19_2, hfz19_3, hfz19_4, hfz19_5, hfz19_6, hfz19_7, hfz19_8, hfz19_9⟩ := bc10 BK113
      go_upto_if 22 with (fail)
      go_cut [3] (fun v3 wc => ∃ (kq : Nat) (x3_14 : ByteArray), v3 = .string x3_14 ∧ Aside0 (text_Clause.j1 kq x3_14 a0_0 a0_1 a0_2 a0_3 a0_4 a0_5 a0_6 a0_7 a0_8 a0_9 = some r) ∧ Aside0 (kq ≤ kj1) ∧ Aside0 (wc.heap[gb113]? = some (.cells #[.bool a0_0, .int .u32 a0_1, .int .i64 a0_2, .int .u8 a0_3, .int .u8 a0_4, .bool a0_5, .int .u8 a0_6, .int .u8 a0_7, .int .i64 a0_8, .int .i64 a0_9] 41 (0, 0))) ∧ Aside0 (Below w.heap.size w wc))
      case first =>
       have H := HC15.out
       clear HC15
       by_cases c20 : a0_5 = true
       ·subst c20
        have H1 : (if (x3_1 ++ ((t115 ++ t116) ++ (⟨#[32, 116, 104, 101, 110]⟩ : ByteArray))).size + 5 ≤ 9223372036854775807 then (text_Clause.j1 kj1 ((x3_1 ++ ((t115 ++ t116) ++ (⟨#[32, 116, 104, 101, 110]⟩ : ByteArray))) ++ (⟨#[32, 100, 114, 111, 112]⟩ : ByteArray)) a0_0 a0_1 a0_2 a0_3 a0_4 true a0_6 a0_7 a0_8 a0_9) else (none)) = some r := by rw [if_pos rfl] at H; exact H
        clear H
        have H := H1
        clear H1
        by_cases c21 : (x3_1 ++ ((t115 ++ t116) ++ (⟨#[32, 116, 104, 101, 110]⟩ : ByteArray))).size + 5 ≤ 9223372036854775807
        ·rw [if_pos c21] at H
         have c21b0 := eq_true c21
         have c21b1 := decide_eq_true c21
         try have c21b2 := eq_false (Nat.not_lt.2 c21)
         try have c21b3 : (9223372036854775807 < x3_1.size + (t115.size + t116.size + 5) + 5) = False := by (have h_ := c21; simp only [ByteArray.size_append] at h_; exact eq_false (Nat.not_lt.2 h_))
         have H' := Aside0.mk H
         clear H
         go_wp2
         go_meet
         case rel => exact ⟨_, ((x3_1 ++ ((t115 ++ t116) ++ (⟨#[32, 116, 104, 101, 110]⟩ : ByteArray))) ++ (⟨#[32, 100, 114, 111, 112]⟩ : ByteArray)), (by first | rfl | (simp; done) | (simp [*]; done)), H', ⟨by have := HJ1.out; first | omega | exact Nat.le_refl _⟩, ⟨bkq BK113⟩, ⟨by repeat (first | (with_reducible first | exact HB.out | apply below_alloc | apply pw_below_drewN | apply below_drew1 | refine below_set ?_ GE113.out) | exact HB.out)⟩⟩
        ·rw [if_neg c21] at H
         exact absurd H (by simp)
       ·replace c20 := Bool.eq_false_iff.mpr c20
        subst c20
        have H1 : (text_Clause.j1 kj1 (x3_1 ++ ((t115 ++ t116) ++ (⟨#[32, 116, 104, 101, 110]⟩ : ByteArray))) a0_0 a0_1 a0_2 a0_3 a0_4 false a0_6 a0_7 a0_8 a0_9) = some r := by rw [if_neg (show ¬ (false = true) by decide)] at H; exact H
        clear H
        have H := H1
        clear H1
        have H' := Aside0.mk H
        clear H
        go_wp2
        go_meet
        case rel => exact ⟨_, (x3_1 ++ ((t115 ++ t116) ++ (⟨#[32, 116, 104, 101, 110]⟩ : ByteArray))), (by first | rfl | (simp; done) | (simp [*]; done)), H', ⟨by have := HJ1.out; first | omega | exact Nat.le_refl _⟩, ⟨bkq BK113⟩, ⟨by repeat (first | (with_reducible first | exact HB.out | apply below_alloc | apply pw_below_drewN | apply below_drew1 | refine below_set ?_ GE113.out) | exact HB.out)⟩⟩
      case rest =>
       clear HC15
       try clear c1
       try clear c2
       try clear p2 p2
       try clear c5
       try clear c7
       try clear c7b0
       try clear c7b1
       try clear c7b2
       try clear c12
       try clear c12b0
       try clear c12b1
       try clear c12b2
       try clear c13
       try clear c13b0
       try clear c13b1
       try clear c13b2
       try clear c14
       try clear c14b0
       try clear c14b1
       try clear c14b2
       try clear c20
       try clear c21
       try clear c21b0
       try clear c21b1
       try clear c21b2
       try clear hcz19_0 hcz19_1 hcz19_2 hcz19_3 hcz19_4 hcz19_5 hcz19_6 hcz19_7 hcz19_8 hcz19_9 hfz19_0 hfz19_1 hfz19_2 hfz19_3 hfz19_4 hfz19_5 hfz19_6 hfz19_7 hfz19_8 hfz19_9
       try clear hcz4_0 hcz4_1 hcz4_2 hcz4_3 hcz4_4 hcz4_5 hcz4_6 hcz4_7 hcz4_8 hcz4_9 hfz4_0 hfz4_1 hfz4_2 hfz4_3 hfz4_4 hfz4_5 hfz4_6 hfz4_7 hfz4_8 hfz4_9
       try clear hcz8_0 hcz8_1 hcz8_2 hcz8_3 hcz8_4 hcz8_5 hcz8_6 hcz8_7 hcz8_8 hcz8_9 hfz8_0 hfz8_1 hfz8_2 hfz8_3 hfz8_4 hfz8_5 hfz8_6 hfz8_7 hfz8_8 hfz8_9
       obtain ⟨kq, x3_14, rfl, HA, HJ14, BK113, HB⟩ := hcut
       cases kq with
       | zero => exact absurd HA.out (by simp [text_Clause.j1])
       | succ kj14 =>
        have H := HA.out
        clear HA
        simp only [text_Clause.j1] at H
        replace H := Option.bind_eq_some_iff.mp H
        obtain ⟨t117, A220, H⟩ := H
        replace H : (if x3_14.size + t117.size ≤ 9223372036854775807 then ((text_tags.f kj14 (⟨#[99, 108, 101, 97, 114]⟩ : ByteArray) a0_7).bind fun t118 => (if (x3_14 ++ t117).size + t118.size ≤ 9223372036854775807 then ((text_number.f (⟨#[109, 111, 114, 101]⟩ : ByteArray) a0_8).bind fun t119 => (if ((x3_14 ++ t117) ++ t118).size + t119.size ≤ 9223372036854775807 then ((text_number.f (⟨#[112, 114, 101, 102]⟩ : ByteArray) a0_9).bind fun t120 => (if (((x3_14 ++ t117) ++ t118) ++ t119).size + t120.size ≤ 9223372036854775807 then (if ((((x3_14 ++ t117) ++ t118) ++ t119) ++ t120).size + 2 ≤ 9223372036854775807 then (some (((((x3_14 ++ t117) ++ t118) ++ t119) ++ t120) ++ (⟨#[59, 10]⟩ : ByteArray))) else (none)) else (none))) else (none))) else (none))) else (none)) = some r := H
        have A22 := Aside0.mk A220
        clear A220
        by_cases c23 : x3_14.size + t117.size ≤ 9223372036854775807
        ·rw [if_pos c23] at H
         have c23b0 := eq_true c23
         have c23b1 := decide_eq_true c23
         try have c23b2 := eq_false (Nat.not_lt.2 c23)
         replace H := Option.bind_eq_some_iff.mp H
         obtain ⟨t118, A240, H⟩ := H
         replace H : (if (x3_14 ++ t117).size + t118.size ≤ 9223372036854775807 then ((text_number.f (⟨#[109, 111, 114, 101]⟩ : ByteArray) a0_8).bind fun t119 => (if ((x3_14 ++ t117) ++ t118).size + t119.size ≤ 9223372036854775807 then ((text_number.f (⟨#[112, 114, 101, 102]⟩ : ByteArray) a0_9).bind fun t120 => (if (((x3_14 ++ t117) ++ t118) ++ t119).size + t120.size ≤ 9223372036854775807 then (if ((((x3_14 ++ t117) ++ t118) ++ t119) ++ t120).size + 2 ≤ 9223372036854775807 then (some (((((x3_14 ++ t117) ++ t118) ++ t119) ++ t120) ++ (⟨#[59, 10]⟩ : ByteArray))) else (none)) else (none))) else (none))) else (none)) = some r := H
         have A24 := Aside0.mk A240
         clear A240
         by_cases c25 : (x3_14 ++ t117).size + t118.size ≤ 9223372036854775807
         ·rw [if_pos c25] at H
          have c25b0 := eq_true c25
          have c25b1 := decide_eq_true c25
          try have c25b2 := eq_false (Nat.not_lt.2 c25)
          try have c25b3 : (9223372036854775807 < x3_14.size + t117.size + t118.size) = False := by (have h_ := c25; simp only [ByteArray.size_append] at h_; exact eq_false (Nat.not_lt.2 h_))
          replace H := Option.bind_eq_some_iff.mp H
          obtain ⟨t119, A260, H⟩ := H
          replace H : (if ((x3_14 ++ t117) ++ t118).size + t119.size ≤ 9223372036854775807 then ((text_number.f (⟨#[112, 114, 101, 102]⟩ : ByteArray) a0_9).bind fun t120 => (if (((x3_14 ++ t117) ++ t118) ++ t119).size + t120.size ≤ 9223372036854775807 then (if ((((x3_14 ++ t117) ++ t118) ++ t119) ++ t120).size + 2 ≤ 9223372036854775807 then (some (((((x3_14 ++ t117) ++ t118) ++ t119) ++ t120) ++ (⟨#[59, 10]⟩ : ByteArray))) else (none)) else (none))) else (none)) = some r := H
          have A26 := Aside0.mk A260
          clear A260
          by_cases c27 : ((x3_14 ++ t117) ++ t118).size + t119.size ≤ 9223372036854775807
          ·rw [if_pos c27] at H
           have c27b0 := eq_true c27
           have c27b1 := decide_eq_true c27
           try have c27b2 := eq_false (Nat.not_lt.2 c27)
           try have c27b3 : (9223372036854775807 < x3_14.size + t117.size + t118.size + t119.size) = False := by (have h_ := c27; simp only [ByteArray.size_append] at h_; exact eq_false (Nat.not_lt.2 h_))
           replace H := Option.bind_eq_some_iff.mp H
           obtain ⟨t120, A280, H⟩ := H
           replace H : (if (((x3_14 ++ t117) ++ t118) ++ t119).size + t120.size ≤ 9223372036854775807 then (if ((((x3_14 ++ t117) ++ t118) ++ t119) ++ t120).size + 2 ≤ 9223372036854775807 then (some (((((x3_14 ++ t117) ++ t118) ++ t119) ++ t120) ++ (⟨#[59, 10]⟩ : ByteArray))) else (none)) else (none)) = some r := H
           have A28 := Aside0.mk A280
           clear A280
           by_cases c29 : (((x3_14 ++ t117) ++ t118) ++ t119).size + t120.size ≤ 9223372036854775807
           ·rw [if_pos c29] at H
            have c29b0 := eq_true c29
            have c29b1 := decide_eq_true c29
            try have c29b2 := eq_false (Nat.not_lt.2 c29)
            try have c29b3 : (9223372036854775807 < x3_14.size + t117.size + t118.size + t119.size + t120.size) = False := by (have h_ := c29; simp only [ByteArray.size_append] at h_; exact eq_false (Nat.not_lt.2 h_))
            by_cases c30 : ((((x3_14 ++ t117) ++ t118) ++ t119) ++ t120).size + 2 ≤ 9223372036854775807
            ·rw [if_pos c30] at H
             have c30b0 := eq_true c30
             have c30b1 := decide_eq_true c30
             try have c30b2 := eq_false (Nat.not_lt.2 c30)
             try have c30b3 : (9223372036854775807 < x3_14.size + t117.size + t118.size + t119.size + t120.size + 2) = False := by (have h_ := c30; simp only [ByteArray.size_append] at h_; exact eq_false (Nat.not_lt.2 h_))
             obtain rfl := Option.some.inj H
             try go_wp2
             replace BK113 := Aside0.mk (blk_drew BK113.out)
             replace HB := Aside0.mk (below_drew1 HB.out)
             refine start_ (n := 19) (S := fun w' => CE10 w' gb113 (.bool a0_0) (.int .u32 a0_1) (.int .i64 a0_2) (.int .u8 a0_3) (.int .u8 a0_4) (.bool a0_5) (.int .u8 a0_6) (.int .u8 a0_7) (.int .i64 a0_8) (.int .i64 a0_9)) (ds := []) #[false, false, false, false, false, false, false, false, false, false, false, false, false, false, false, false, false, false, false] (by kernel_rfl) rfl rfl (he10 BK113) (fun hHeld => ?_); refine with_tabW text_Clause.tab7 text_Clause.bits7 (fun HT_ HW_ => ?_)
             generalize wc.drew = w31 at BK113 HB hHeld ⊢
             refine pu HT_ 0 (some 25) (mk 19 1) ?_
             refine pu HT_ 1 (some 26) (mk 19 3) ?_
             refine pu HT_ 5 (some 30) (mk 19 35) ?_
             refine pu HT_ 9 (some 34) (mk 19 547) ?_
             refine pu HT_ 13 (some 38) (mk 19 8739) ?_
             refine tk HT_ HW_ 2 (some 27) (mk 19 8743) hHeld ?_
             refine tk HT_ HW_ 6 (some 31) (mk 19 8807) hHeld ?_
             refine tk HT_ HW_ 10 (some 35) (mk 19 9831) hHeld ?_
             refine tk HT_ HW_ 14 (some 39) (mk 19 26215) hHeld ?_
             refine on HT_ 3 (some 28) (mk 19 26223) fun K hK => ?_
             refine go1 Tryd.func25 #[.string (⟨#[115, 101, 116]⟩ : ByteArray), .int .u8 a0_6] ?_
             with_reducible refine (text_tags.calls kj14 (⟨#[115, 101, 116]⟩ : ByteArray) a0_6 t117 _ A22.out (Go.Proofs.YtjcopneljfcfoaaDoor.Inv.ivb hInv)).mono ?_
             rintro e w32 ⟨rfl, hb⟩
             refine ⟨_, rfl, ?_⟩
             replace BK113 := bkb BK113 hb
             replace HB := bst hb
             (try clear hb)
             (try clear hb2)
             (try clear hk)
             (try clear hi)
             refine hK.out _ _ (he10 BK113) (fun hHeld => ?_)
             clear hK K
             refine nm (some 28) ?_
             refine pu HT_ 4 (some 29) (mk 19 26239) ?_
             refine on HT_ 7 (some 32) (mk 19 26367) fun K hK => ?_
             refine go1 Tryd.func25 #[.string (⟨#[99, 108, 101, 97, 114]⟩ : ByteArray), .int .u8 a0_7] ?_
             with_reducible refine (text_tags.calls kj14 (⟨#[99, 108, 101, 97, 114]⟩ : ByteArray) a0_7 t118 _ A24.out (Go.Proofs.YtjcopneljfcfoaaDoor.Inv.ivb hInv)).mono ?_
             rintro e w33 ⟨rfl, hb⟩
             refine ⟨_, rfl, ?_⟩
             replace BK113 := bkb BK113 hb
             replace HB := bst hb
             (try clear hb)
             (try clear hb2)
             (try clear hk)
             (try clear hi)
             refine hK.out _ _ (he10 BK113) (fun hHeld => ?_)
             clear hK K
             refine nm (some 32) ?_
             refine pu HT_ 8 (some 33) (mk 19 26623) ?_
             refine on HT_ 11 (some 36) (mk 19 28671) fun K hK => ?_
             refine go1 Tryd.func26 #[.string (⟨#[109, 111, 114, 101]⟩ : ByteArray), .int .i64 a0_8] ?_
             with_reducible refine (text_number.calls (⟨#[109, 111, 114, 101]⟩ : ByteArray) a0_8 t119 _ A26.out (Go.Proofs.YtjcopneljfcfoaaDoor.Inv.ivb hInv)).mono ?_
             rintro e w34 ⟨rfl, hb⟩
             refine ⟨_, rfl, ?_⟩
             replace BK113 := bkb BK113 hb
             replace HB := bst hb
             (try clear hb)
             (try clear hb2)
             (try clear hk)
             (try clear hi)
             refine hK.out _ _ (he10 BK113) (fun hHeld => ?_)
             clear hK K
             refine nm (some 36) ?_
             refine pu HT_ 12 (some 37) (mk 19 32767) ?_
             refine on HT_ 15 (some 40) (mk 19 65535) fun K hK => ?_
             refine go1 Tryd.func26 #[.string (⟨#[112, 114, 101, 102]⟩ : ByteArray), .int .i64 a0_9] ?_
             with_reducible refine (text_number.calls (⟨#[112, 114, 101, 102]⟩ : ByteArray) a0_9 t120 _ A28.out (Go.Proofs.YtjcopneljfcfoaaDoor.Inv.ivb hInv)).mono ?_
             rintro e w35 ⟨rfl, hb⟩
             refine ⟨_, rfl, ?_⟩
             replace BK113 := bkb BK113 hb
             replace HB := bst hb
             (try clear hb)
             (try clear hb2)
             (try clear hk)
             (try clear hi)
             refine hK.out _ _ (he10 BK113) (fun hHeld => ?_)
             clear hK K
             refine nm (some 40) ?_
             refine pu HT_ 16 (some 41) (mk 19 131071) ?_
             refine pu HT_ 17 (some 42) (mk 19 262143) ?_
             refine pu HT_ 18 (some 2) (mk 19 524287) ?_
             refine done_ (done_of HT_.out (by kernel_rfl)) ?_
             try go_wp2
             go_ret
             exact ⟨by first | rfl | (simp [errW_none, errW_some] <;> rfl) | (simp [*, errW_none, errW_some] <;> rfl), by repeat (first | (with_reducible first | exact HB.out | apply below_alloc | apply pw_below_drewN | apply below_drew1 | refine below_set ?_ GE113.out) | exact HB.out)⟩
            ·rw [if_neg c30] at H
             exact absurd H (by simp)
           ·rw [if_neg c29] at H
            exact absurd H (by simp)
          ·rw [if_neg c27] at H
           exact absurd H (by simp)
         ·rw [if_neg c25] at H
          exact absurd H (by simp)
        ·rw [if_neg c23] at H
         exact absurd H (by simp)
     ·rw [if_neg c14] at H
      exact absurd H (by simp)
    ·rw [if_neg c13] at H
     exact absurd H (by simp)
   ·rw [if_neg c12] at H
    exact absurd H (by simp)

end Go.Proofs.YtjcopneljfcfoaaDoor.PRaw
