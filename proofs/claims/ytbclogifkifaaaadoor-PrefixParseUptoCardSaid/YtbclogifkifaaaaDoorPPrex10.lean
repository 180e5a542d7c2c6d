-- Written by wip/xprint.py of this work: the printer of the kit, with contracts of this work beside it, shortened.
import Derived.Test.YtbclogifkifaaaaDoorShort
import Derived.Test.YtbclogifkifaaaaDoorPPrex0
import Derived.Test.YtbclogifkifaaaaDoorPPrex6
import Derived.Test.YtbclogifkifaaaaDoorPPrex8
import Derived.Test.YtbclogifkifaaaaDoorPPrex9
namespace Go.Proofs.YtbclogifkifaaaaDoor.PPre
open Go.RowKit Go.Proofs.YtbclogifkifaaaaDoor.Short Go.Proofs.YtbclogifkifaaaaDoorW.PrintWords Go.Proofs.YtbclogifkifaaaaDoorW.PrintLast Go.Proofs.YtbclogifkifaaaaDoorW.PrintMore
attribute [local go_sem] max2_int min2_int max_two min_two max_three min_three max_four min_four   -- for this text's walks alone
set_option linter.unusedVariables false
set_option linter.unusedSimpArgs false

/-! ### prefix_Text: function 9 -/
def prefix_Text.l0 : Nat → List ByteArray → Int → Int → Int → Option (ByteArray)
 | 0, _, _, _, _ => none
 | k + 1, x3, x4, x118000, x118001 => if x4 ≥ 0 then (if 0 ≤ x4 then ((strconv_Itoa.f (wrap64 (Go.bits .and .u32 (shr .u32 x118000 x4) 255))).bind fun t119 => (if x3.length < 8796093022208 then (prefix_Text.l0 k (x3 ++ [t119]) (wrap64 (x4 - 8)) x118000 x118001) else (none))) else (none)) else ((strings_Join.f x3 (⟨#[46]⟩ : ByteArray)).bind fun t123 => (if t123.size + 1 ≤ 9223372036854775807 then ((strconv_Itoa.f x118001).bind fun t124 => (if (t123 ++ (⟨#[47]⟩ : ByteArray)).size + t124.size ≤ 9223372036854775807 then (some ((t123 ++ (⟨#[47]⟩ : ByteArray)) ++ t124)) else (none))) else (none)))
def prefix_Text.f (k : Nat) (a0_0 : Int) (a0_1 : Int) : Option (ByteArray) := (prefix_May.f a0_0 a0_1).bind fun t118 => (if t118 = true then (prefix_Text.l0 k ([] : List ByteArray) 24 a0_0 a0_1) else (some (⟨#[]⟩ : ByteArray)))
theorem prefix_Text.mono_l : ∀ k, (∀ y0 y1 y2 y3, LeO (prefix_Text.l0 k y0 y1 y2 y3) (prefix_Text.l0 (k + 1) y0 y1 y2 y3))
 | 0 => fun _ _ _ _ r h => by simp [prefix_Text.l0] at h
 | k + 1 => by
  have ih0 := prefix_Text.mono_l k
  ·intro y0 y1 y2 y3
   unfold prefix_Text.l0
   repeat' first
   | (with_reducible exact ih0 _ _ _ _)
   | (with_reducible exact LeO.refl _)
   | (with_reducible exact LeO.none _)
   | (with_reducible refine LeO.ite ?_ ?_)
   | (with_reducible refine LeO.bind ?_ (fun _ => ?_))
   | exact ih0 _ _ _ _
   | exact LeO.none _
   | refine LeO.ite ?_ ?_
   | refine LeO.bind ?_ (fun _ => ?_)
theorem prefix_Text.mono : ∀ a0 a1 k, LeO (prefix_Text.f k a0 a1) (prefix_Text.f (k + 1) a0 a1) := by
 intro a0 a1 k
 have ih0 := prefix_Text.mono_l k
 unfold prefix_Text.f
 repeat' first
   | (with_reducible exact ih0 _ _ _ _)
   | (with_reducible exact LeO.refl _)
   | (with_reducible exact LeO.none _)
   | (with_reducible refine LeO.ite ?_ ?_)
   | (with_reducible refine LeO.bind ?_ (fun _ => ?_))
   | exact ih0 _ _ _ _
   | exact LeO.none _
   | refine LeO.ite ?_ ?_
   | refine LeO.bind ?_ (fun _ => ?_)
def prefix_Text.T8 : Bool × List (List Nat × List Nat) := (true, [([], []), ([0], [0]), ([1], [1]), ([], []), ([3], [3]), ([4, 1], [4]), ([2, 5], [2, 5]), ([6, 5, 0, 1, 2, 3, 4, 5, 6], [6])])
def prefix_Text.B8 : List Nat := [0, 1, 3, 0, 8, 27, 63, 127]
theorem prefix_Text.tab8 : rtab .any (opsOf Tryd.f9 8) = prefix_Text.T8 := by kernel_rfl
theorem prefix_Text.bits8 : waitsOk prefix_Text.T8.2 prefix_Text.B8 = true := by kernel_rfl
set_option maxHeartbeats 8000000 in
set_option maxRecDepth 100000 in
theorem prefix_Text.calls (k : Nat) (a0_0 : Int) (a0_1 : Int) (r : ByteArray) (w : World) (h : prefix_Text.f k a0_0 a0_1 = some r) (hInv : Go.Proofs.YtbclogifkifaaaaDoor.Inv.Inv w) :
  Calls Tryd.prog 9 #[.agg #[.int .u32 a0_0, .int .i64 a0_1]] w fun e w' => e = .returned (.string r) ∧ Below w.heap.size w w' := by
 have hu27 := Tryd.underlying27
 have HB := Aside0.mk (Below.refl w.heap.size w)
 have H : ((prefix_May.f a0_0 a0_1).bind fun t118 => (if t118 = true then (prefix_Text.l0 k ([] : List ByteArray) 24 a0_0 a0_1) else (some (⟨#[]⟩ : ByteArray)))) = some r := h
 clear h
 replace H := Option.bind_eq_some_iff.mp H
 obtain ⟨t118, A20, H⟩ := H
 replace H : (if t118 = true then (prefix_Text.l0 k ([] : List ByteArray) 24 a0_0 a0_1) else (some (⟨#[]⟩ : ByteArray))) = some r := H
 have A2 := Aside0.mk A20
 clear A20
 by_cases c3 : t118 = true
 ·subst c3
  have H1 : (prefix_Text.l0 k ([] : List ByteArray) 24 a0_0 a0_1) = some r := by rw [if_pos rfl] at H; exact H
  clear H
  have H := H1
  clear H1
  have H' := Aside0.mk H
  clear H
  go_enter Tryd.func9, Tryd.ntmps9
  go_wp2_with (first | ((with_reducible refine gate_dst (N := 1) rfl ?_); refine bx 1 (cs := #[.int .u32 a0_0, .int .i64 a0_1]) (t := 27) (h := ?_); intro gb117 hg w4 hbox hb; have BK117 := Aside0.mk hbox; have GW117 : Aside0 (w.heap.size ≤ gb117) := bge hg; have GE117 : Aside0 (w.heap.size ≤ gb117) := bge hg; replace HB := bst hb; clear hb hbox hg; obtain ⟨hcz5_0, hcz5_1, hfz5_0, hfz5_1⟩ := bc2 BK117) | ((with_reducible refine gate_dst (N := 6) rfl ?_); refine gl (some 6) Tryd.func14 #[.agg #[.int .u32 a0_0, .int .i64 a0_1]] ?_; (with_reducible refine (prefix_May.calls a0_0 a0_1 true _ A2.out).mono ?_); rintro e w6 ⟨rfl, hb⟩; refine ⟨_, rfl, ?_⟩; replace BK117 := bkb BK117 hb; replace HB := bst hb; (try clear hb); (try clear hb2); (try clear hk); (try clear hi)))
  go_loopg [3, 4] k (fun kq v3 v4 w' => ∃ (x3_1 : List ByteArray) (x4_1 : Int), v4 = .int .i64 x4_1 ∧ Aside0 (prefix_Text.l0 kq x3_1 x4_1 a0_0 a0_1 = some r) ∧ Aside0 (kq ≤ k) ∧ Aside0 (Kd.R Kd.string 9 w' w.heap.size (fun _ => True) v3 x3_1) ∧ Aside0 (w'.heap[gb117]? = some (.cells #[.int .u32 a0_0, .int .i64 a0_1] 27 (0, 0))) ∧ Aside0 (Below w.heap.size w w'))
  case atStart => exact ⟨(([] : List ByteArray)), (24), (by first | rfl | (simp; done) | (simp [*]; done)), H', ⟨Nat.le_refl _⟩, ⟨by first | exact Kd.R_nil _ _ _ _ _ | exact Kd.N_nil _ _ _ _ _ | exact Kd.V_nil _ _ _ _ _ | exact Kd.Q_nil _ _ _ _ _ | exact Kd.S_nil _ _ _ _ _⟩, ⟨bkq BK117⟩, ⟨by repeat (first | (with_reducible first | exact HB.out | apply below_alloc | apply pw_below_drewN | apply below_drew1 | refine below_set ?_ GE117.out) | exact HB.out)⟩⟩
  case round =>
   clear H'
   try clear c1
   try clear p2
   try clear c3
   try clear hcz5_0 hcz5_1 hfz5_0 hfz5_1
   obtain ⟨x3_1, x4_1, rfl, HA, HK1, HO_3, BK117, HB⟩ := hrel
   cases gk with
   | zero => exact absurd HA.out (by simp [prefix_Text.l0])
   | succ k1 =>
    have H := HA.out
    clear HA
    simp only [prefix_Text.l0] at H
    by_cases c7 : x4_1 ≥ 0
    ·rw [if_pos c7] at H
     have c7b0 : decide (0 ≤ x4_1) = true := decide_eq_true c7
     clear c7
     by_cases c8 : 0 ≤ x4_1
     ·rw [if_pos c8] at H
      have c8b0 := eq_true c8
      have c8b1 := decide_eq_true c8
      clear c8
      obtain ⟨ji9, hji9⟩ : ∃ j_ : Int, (shr .u32 a0_0 x4_1) = j_ := ⟨_, rfl⟩
      replace H : ((strconv_Itoa.f (wrap64 (Go.bits .and .u32 (ji9) 255))).bind fun t119 => (if x3_1.length < 8796093022208 then (prefix_Text.l0 k1 (x3_1 ++ [t119]) (wrap64 (x4_1 - 8)) a0_0 a0_1) else (none))) = some r := by first | (rw [hji9] at H; exact H) | (simp only [hji9] at H ⊢; exact H)
      have hji9_ : (a0_0 / 2 ^ min x4_1.toNat 32) = ji9 := hji9
      have hji9z : x4_1 ≤ 32 → (a0_0 / 2 ^ x4_1.toNat) = ji9 := shr_small hji9
      replace H := Option.bind_eq_some_iff.mp H
      obtain ⟨t119, A100, H⟩ := H
      replace H : (if x3_1.length < 8796093022208 then (prefix_Text.l0 k1 (x3_1 ++ [t119]) (wrap64 (x4_1 - 8)) a0_0 a0_1) else (none)) = some r := H
      have A10 := Aside0.mk A100
      clear A100
      by_cases c11 : x3_1.length < 8796093022208
      ·rw [if_pos c11] at H
       have LMc11 := Aside0.mk c11
       clear c11
       obtain ⟨y120, hy120⟩ : ∃ y_ : List ByteArray, y_ = (x3_1 ++ [t119]) := ⟨_, rfl⟩
       replace H : (prefix_Text.l0 k1 y120 (wrap64 (x4_1 - 8)) a0_0 a0_1) = some r := by first | (rw [hy120]; with_reducible exact H) | (have H2_ := (Option.bind_some _ _).symm.trans H; rw [hy120]; with_reducible exact H2_) | (have H2_ := (Option.bind_some _ _).symm.trans H; with_reducible exact H2_) | with_reducible exact H | (rw [hy120]; exact H) | exact H
       have Ny120 := Aside0.mk hy120
       clear hy120
       have H' := Aside0.mk H
       clear H
       obtain ⟨hcz12_0, hcz12_1, hfz12_0, hfz12_1⟩ := bc2 BK117
       go_wp2_with (first | ((with_reducible refine gate_dst (N := 19) rfl ?_); refine goesL_ (some 19) rfl rfl Tryd.func16 (by kernel_rfl) rfl #[.int .i64 (wrap64 (Go.bits .and .u32 (ji9) 255))] rfl (by (try simp only [List.map_toArray, List.map_cons, List.map_nil]); first | done | (simp only [hji9]; rfl) | rfl | (simp only [List.length_drop, List.length_take]; rfl)) ?_; (with_reducible refine (strconv_Itoa.calls (wrap64 (Go.bits .and .u32 (ji9) 255)) t119 _ A10.out (Go.Proofs.YtbclogifkifaaaaDoor.Inv.ivb hInv)).mono ?_); rintro e w13 ⟨rfl, hb⟩; refine ⟨_, rfl, ?_⟩; replace HO_3 := Aside0.mk (Kd.R_below (kR HO_3) hb); replace BK117 := bkb BK117 hb; replace HB := bst hb; (try clear hb); (try clear hb2); (try clear hk); (try clear hi)) | ((with_reducible refine gate_builtin (b := .append) (xs := #[.tmp 12, .tmp 20]) rfl ?_); at_builtin; refine Kd.R_append Kd.string (w0 := w) w.heap.size rfl (.tmp 12) (.tmp 20) 29 9 (.string ⟨#[]⟩) 16 rfl Tryd.underlying29 info9 rfl (by decide) (by omega) u3 x3_1 t119 [.string t119] (fun _ => True) (fun _ => False) rfl rfl ?aP (fun _ hk => hk.elim) ?aF ?aO ?aB ?aS ?aL ?_; (case aP => exact rfl); (case aB => exact bel); (case aF => exact (fun _ _ => trivial)); (case aO => exact (kR HO_3)); (case aS => exact (below_size bel)); (case aL => have := LMc11.out; omega); intro v121 w14 ho hb hg hat; rw [← Ny120.out] at ho; have HO122 := Aside0.mk ho; replace BK117 := Aside0.mk (blk_grown (bkq BK117) hg (Kd.R_ne HO_3.out BK117.out (by decide))); replace HB := Aside0.mk (hb); clear HO_3; clear ho hb hg hat))
       go_roundg k1
       case measure => have := HK1.out; omega
       case rel => exact ⟨(y120), (wrap64 (x4_1 - 8)), (by first | rfl | (simp; done) | (simp [*]; done)), H', ⟨by have := HK1.out; omega⟩, ⟨by (with_reducible repeat (first | apply Kd.R_alloc | apply Kd.R_drewN | apply Kd.R_drew)); exact HO122.out⟩, ⟨bkq BK117⟩, ⟨by repeat (first | (with_reducible first | exact HB.out | apply below_alloc | apply pw_below_drewN | apply below_drew1 | refine below_set ?_ GE117.out) | exact HB.out)⟩⟩
      ·rw [if_neg c11] at H
       exact absurd H (by simp)
     ·rw [if_neg c8] at H
      exact absurd H (by simp)
    ·rw [if_neg c7] at H
     have c7b0 : decide (0 ≤ x4_1) = false := decide_eq_false c7
     clear c7
     replace H := Option.bind_eq_some_iff.mp H
     obtain ⟨t123, A150, H⟩ := H
     replace H : (if t123.size + 1 ≤ 9223372036854775807 then ((strconv_Itoa.f a0_1).bind fun t124 => (if (t123 ++ (⟨#[47]⟩ : ByteArray)).size + t124.size ≤ 9223372036854775807 then (some ((t123 ++ (⟨#[47]⟩ : ByteArray)) ++ t124)) else (none))) else (none)) = some r := H
     have A15 := Aside0.mk A150
     clear A150
     by_cases c16 : t123.size + 1 ≤ 9223372036854775807
     ·rw [if_pos c16] at H
      have c16b0 := eq_true c16
      have c16b1 := decide_eq_true c16
      try have c16b2 := eq_false (Nat.not_lt.2 c16)
      replace H := Option.bind_eq_some_iff.mp H
      obtain ⟨t124, A170, H⟩ := H
      replace H : (if (t123 ++ (⟨#[47]⟩ : ByteArray)).size + t124.size ≤ 9223372036854775807 then (some ((t123 ++ (⟨#[47]⟩ : ByteArray)) ++ t124)) else (none)) = some r := H
      have A17 := Aside0.mk A170
      clear A170
      by_cases c18 : (t123 ++ (⟨#[47]⟩ : ByteArray)).size + t124.size ≤ 9223372036854775807
      ·rw [if_pos c18] at H
       have c18b0 := eq_true c18
       have c18b1 := decide_eq_true c18
       try have c18b2 := eq_false (Nat.not_lt.2 c18)
       try have c18b3 : (9223372036854775807 < t123.size + 1 + t124.size) = False := by (have h_ := c18; simp only [ByteArray.size_append] at h_; exact eq_false (Nat.not_lt.2 h_))
       obtain rfl := Option.some.inj H
       try go_wp2
       replace HO_3 := Aside0.mk (Kd.R_drew HO_3.out)
       replace BK117 := Aside0.mk (blk_drew BK117.out)
       replace HB := Aside0.mk (below_drew1 HB.out)
       obtain ⟨Ao20, co20, eo20⟩ := Kd.R_slice HO_3.out
       (first | subst eo20 | (injection eo20 with f1_ f2_ f3_; have f4_ := f1_.symm; have f5_ := f3_.symm; clear f1_ f2_ f3_; subst f4_; subst f5_))
       refine start_ (n := 8) (S := fun w' => CE2 w' gb117 (.int .u32 a0_0) (.int .i64 a0_1)) (ds := []) #[false, false, false, false, false, false, false, false] (by kernel_rfl) rfl rfl (he2 BK117) (fun hHeld => ?_); refine with_tabW prefix_Text.tab8 prefix_Text.bits8 (fun HT_ HW_ => ?_)
       generalize wr.drew = w19 at HO_3 BK117 HB hHeld ⊢
       refine pu HT_ 0 (some 22) (mk 8 1) ?_
       refine pu HT_ 3 (some 25) (mk 8 9) ?_
       refine tk HT_ HW_ 4 (some 26) (mk 8 25) hHeld ?_
       refine on HT_ 1 (some 23) (mk 8 27) fun K hK => ?_
       refine go1 Tryd.func17 #[.slice Ao20 x3_1.length co20, .string (⟨#[46]⟩ : ByteArray)] ?_
       with_reducible refine (strings_Join.calls _ _ x3_1 (⟨#[46]⟩ : ByteArray) t123 _ ?side1 ?side2 A15.out).mono ?_
       (case side1 => repeat (first | exact (Kd.R_reads' HO_3.out).2.2 | (with_reducible refine Kd.C_alloc ?_ _) | (with_reducible refine Kd.C_drewN ?_ _) | (with_reducible refine Kd.C_drew ?_)))
       (case side2 => exact (Kd.R_reads' HO_3.out).2.1)
       rintro e w21 ⟨rfl, hb⟩
       refine ⟨_, rfl, ?_⟩
       replace HO_3 := Aside0.mk (Kd.R_below (kR HO_3) hb)
       replace BK117 := bkb BK117 hb
       replace HB := bst hb
       (try clear hb)
       (try clear hb2)
       (try clear hk)
       (try clear hi)
       refine hK.out _ _ (he2 BK117) (fun hHeld => ?_)
       clear hK K
       refine nm (some 23) ?_
       refine pu HT_ 2 (some 24) (mk 8 31) ?_
       refine on HT_ 5 (some 27) (mk 8 63) fun K hK => ?_
       refine go1 Tryd.func16 #[.int .i64 a0_1] ?_
       with_reducible refine (strconv_Itoa.calls a0_1 t124 _ A17.out (Go.Proofs.YtbclogifkifaaaaDoor.Inv.ivb hInv)).mono ?_
       rintro e w22 ⟨rfl, hb⟩
       refine ⟨_, rfl, ?_⟩
       replace HO_3 := Aside0.mk (Kd.R_below (kR HO_3) hb)
       replace BK117 := bkb BK117 hb
       replace HB := bst hb
       (try clear hb)
       (try clear hb2)
       (try clear hk)
       (try clear hi)
       refine hK.out _ _ (he2 BK117) (fun hHeld => ?_)
       clear hK K
       refine nm (some 27) ?_
       refine pu HT_ 6 (some 28) (mk 8 127) ?_
       refine pu HT_ 7 (some 2) (mk 8 255) ?_
       refine done_ (done_of HT_.out (by kernel_rfl)) ?_
       try go_wp2
       go_ret
       exact ⟨by first | rfl | (simp [errW_none, errW_some] <;> rfl) | (simp [*, errW_none, errW_some] <;> rfl), by repeat (first | (with_reducible first | exact HB.out | apply below_alloc | apply pw_below_drewN | apply below_drew1 | refine below_set ?_ GE117.out) | exact HB.out)⟩
      ·rw [if_neg c18] at H
       exact absurd H (by simp)
     ·rw [if_neg c16] at H
      exact absurd H (by simp)
 ·replace c3 := Bool.eq_false_iff.mpr c3
  subst c3
  have H1 : (some (⟨#[]⟩ : ByteArray)) = some r := by rw [if_neg (show ¬ (false = true) by decide)] at H; exact H
  clear H
  have H := H1
  clear H1
  obtain rfl := Option.some.inj H
  go_enter Tryd.func9, Tryd.ntmps9
  go_wp2_with (first | ((with_reducible refine gate_dst (N := 1) rfl ?_); refine bx 1 (cs := #[.int .u32 a0_0, .int .i64 a0_1]) (t := 27) (h := ?_); intro gb117 hg w23 hbox hb; have BK117 := Aside0.mk hbox; have GW117 : Aside0 (w.heap.size ≤ gb117) := bge hg; have GE117 : Aside0 (w.heap.size ≤ gb117) := bge hg; replace HB := bst hb; clear hb hbox hg; obtain ⟨hcz24_0, hcz24_1, hfz24_0, hfz24_1⟩ := bc2 BK117) | ((with_reducible refine gate_dst (N := 6) rfl ?_); refine gl (some 6) Tryd.func14 #[.agg #[.int .u32 a0_0, .int .i64 a0_1]] ?_; (with_reducible refine (prefix_May.calls a0_0 a0_1 false _ A2.out).mono ?_); rintro e w25 ⟨rfl, hb⟩; refine ⟨_, rfl, ?_⟩; replace BK117 := bkb BK117 hb; replace HB := bst hb; (try clear hb); (try clear hb2); (try clear hk); (try clear hi)))
  go_ret
  exact ⟨by first | rfl | (simp [errW_none, errW_some] <;> rfl) | (simp [*, errW_none, errW_some] <;> rfl), by repeat (first | (with_reducible first | exact HB.out | apply below_alloc | apply pw_below_drewN | apply below_drew1 | refine below_set ?_ GE117.out) | exact HB.out)⟩

end Go.Proofs.YtbclogifkifaaaaDoor.PPre
