-- Written by wip/xprint.py of this work: the printer of the kit, with contracts of this work beside it, shortened.
import Derived.Test.YtjcopneljfcfoaaDoorShort
import Derived.Test.YtjcopneljfcfoaaDoorPRawx0
import Derived.Test.YtjcopneljfcfoaaDoorPRawx11
import Derived.Test.YtjcopneljfcfoaaDoorPRawx12
import Derived.Test.YtjcopneljfcfoaaDoorPRawx17
namespace Go.Proofs.YtjcopneljfcfoaaDoor.PRaw
open Go.RowKit Go.Proofs.YtjcopneljfcfoaaDoor.Short Go.Proofs.YtjcopneljfcfoaaDoorW.PrintWords Go.Proofs.YtjcopneljfcfoaaDoorW.PrintLast Go.Proofs.YtjcopneljfcfoaaDoorW.PrintMore
attribute [local go_sem] max2_int min2_int max_two min_two max_three min_three max_four min_four   -- for this text's walks alone
set_option linter.unusedVariables false
set_option linter.unusedSimpArgs false

/-! ### maquettelaw07_TextRaw: function 4 -/
mutual
def maquettelaw07_TextRaw.l0 : Nat → List (S36) → Int → Int → List (S36) → List (S46) → Option (Bool)
 | 0, _, _, _, _, _ => none
 | k + 1, x14, x15, x16, x157000, x157001 => if x16 < x15 then (if 0 ≤ x16 then (if x16 < (x14.length : Int) then (maquettelaw07_TextRaw.l1 k x14 x15 x16 ((rd_T36 x14 x16).f1) (((rd_T36 x14 x16).f1).length : Int) 0 x157000 x157001) else (none)) else (none)) else (maquettelaw07_TextRaw.l2 k x157001 (x157001.length : Int) 0 x157000 x157001)
def maquettelaw07_TextRaw.l1 : Nat → List (S36) → Int → Int → List (S41) → Int → Int → List (S36) → List (S46) → Option (Bool)
 | 0, _, _, _, _, _, _, _, _ => none
 | k + 1, x14, x15, x16, x21, x22, x23, x157000, x157001 => if x23 < x22 then (if 0 ≤ x23 then (if x23 < (x21.length : Int) then (if ((rd_T41 x21 x23).f7) < (-999999) then (some true) else (if ((rd_T41 x21 x23).f8) < (-999999) then (some true) else (maquettelaw07_TextRaw.l1 k x14 x15 x16 x21 x22 (wrap64 (x23 + 1)) x157000 x157001))) else (none)) else (none)) else (maquettelaw07_TextRaw.l0 k x14 x15 (wrap64 (x16 + 1)) x157000 x157001)
def maquettelaw07_TextRaw.l2 : Nat → List (S46) → Int → Int → List (S36) → List (S46) → Option (Bool)
 | 0, _, _, _, _, _ => none
 | k + 1, x38, x39, x40, x157000, x157001 => if x40 < x39 then (if 0 ≤ x40 then (if x40 < (x38.length : Int) then (maquettelaw07_TextRaw.l3 k x38 x39 x40 ((rd_T46 x38 x40).f2) (((rd_T46 x38 x40).f2).length : Int) 0 x157000 x157001) else (none)) else (none)) else ((text_Config.f k x157000 x157001).bind fun t162 => ((maquettelaw07_Text.f k x157000 x157001).bind fun t163 => (some (t162.toList == t163.toList))))
def maquettelaw07_TextRaw.l3 : Nat → List (S46) → Int → Int → List (S48) → Int → Int → List (S36) → List (S46) → Option (Bool)
 | 0, _, _, _, _, _, _, _, _ => none
 | k + 1, x38, x39, x40, x45, x46, x47, x157000, x157001 => if x47 < x46 then (if 0 ≤ x47 then (if x47 < (x45.length : Int) then (if ((rd_T48 x45 x47).f1) < (-999999) then (some true) else (maquettelaw07_TextRaw.l3 k x38 x39 x40 x45 x46 (wrap64 (x47 + 1)) x157000 x157001)) else (none)) else (none)) else (maquettelaw07_TextRaw.l2 k x38 x39 (wrap64 (x40 + 1)) x157000 x157001)
end
def maquettelaw07_TextRaw.f (k : Nat) (l0_0 : List (S36)) (l0_1 : List (S46)) : Option (Bool) := (maquettelaw07_awake.f k).bind fun t157 => (if t157 = true then (maquettelaw07_TextRaw.l0 k l0_0 (l0_0.length : Int) 0 l0_0 l0_1) else (some false))
theorem maquettelaw07_TextRaw.mono_l : ∀ k, (∀ y0 y1 y2 y3 y4, LeO (maquettelaw07_TextRaw.l0 k y0 y1 y2 y3 y4) (maquettelaw07_TextRaw.l0 (k + 1) y0 y1 y2 y3 y4)) ∧ (∀ y0 y1 y2 y3 y4 y5 y6 y7, LeO (maquettelaw07_TextRaw.l1 k y0 y1 y2 y3 y4 y5 y6 y7) (maquettelaw07_TextRaw.l1 (k + 1) y0 y1 y2 y3 y4 y5 y6 y7)) ∧ (∀ y0 y1 y2 y3 y4, LeO (maquettelaw07_TextRaw.l2 k y0 y1 y2 y3 y4) (maquettelaw07_TextRaw.l2 (k + 1) y0 y1 y2 y3 y4)) ∧ (∀ y0 y1 y2 y3 y4 y5 y6 y7, LeO (maquettelaw07_TextRaw.l3 k y0 y1 y2 y3 y4 y5 y6 y7) (maquettelaw07_TextRaw.l3 (k + 1) y0 y1 y2 y3 y4 y5 y6 y7))
 | 0 => ⟨fun _ _ _ _ _ r h => by simp [maquettelaw07_TextRaw.l0] at h, fun _ _ _ _ _ _ _ _ r h => by simp [maquettelaw07_TextRaw.l1] at h, fun _ _ _ _ _ r h => by simp [maquettelaw07_TextRaw.l2] at h, fun _ _ _ _ _ _ _ _ r h => by simp [maquettelaw07_TextRaw.l3] at h⟩
 | k + 1 => by
  obtain ⟨ih0, ih1, ih2, ih3⟩ := maquettelaw07_TextRaw.mono_l k
  refine ⟨?_, ?_, ?_, ?_⟩<;> intros <;> (first | unfold maquettelaw07_TextRaw.l0 | unfold maquettelaw07_TextRaw.l1 | unfold maquettelaw07_TextRaw.l2 | unfold maquettelaw07_TextRaw.l3) <;> repeat' first
   | (with_reducible exact ih0 _ _ _ _ _)
   | (with_reducible exact ih1 _ _ _ _ _ _ _ _)
   | (with_reducible exact ih2 _ _ _ _ _)
   | (with_reducible exact ih3 _ _ _ _ _ _ _ _)
   | (with_reducible exact maquettelaw07_Text.mono _ _ _)
   | (with_reducible exact maquettelaw07_awake.mono _)
   | (with_reducible exact text_Config.mono _ _ _)
   | (with_reducible exact LeO.refl _)
   | (with_reducible exact LeO.none _)
   | (with_reducible refine LeO.ite ?_ ?_)
   | (with_reducible refine LeO.bind ?_ (fun _ => ?_))
   | exact ih0 _ _ _ _ _
   | exact ih1 _ _ _ _ _ _ _ _
   | exact ih2 _ _ _ _ _
   | exact ih3 _ _ _ _ _ _ _ _
   | exact maquettelaw07_Text.mono _ _ _
   | exact maquettelaw07_awake.mono _
   | exact text_Config.mono _ _ _
   | exact LeO.none _
   | refine LeO.ite ?_ ?_
   | refine LeO.bind ?_ (fun _ => ?_)
theorem maquettelaw07_TextRaw.mono : ∀ a0 a1 k, LeO (maquettelaw07_TextRaw.f k a0 a1) (maquettelaw07_TextRaw.f (k + 1) a0 a1) := by
 intro a0 a1 k
 obtain ⟨ih0, ih1, ih2, ih3⟩ := maquettelaw07_TextRaw.mono_l k
 unfold maquettelaw07_TextRaw.f
 repeat' first
   | (with_reducible exact ih0 _ _ _ _ _)
   | (with_reducible exact ih1 _ _ _ _ _ _ _ _)
   | (with_reducible exact ih2 _ _ _ _ _)
   | (with_reducible exact ih3 _ _ _ _ _ _ _ _)
   | (with_reducible exact maquettelaw07_Text.mono _ _ _)
   | (with_reducible exact maquettelaw07_awake.mono _)
   | (with_reducible exact text_Config.mono _ _ _)
   | (with_reducible exact LeO.refl _)
   | (with_reducible exact LeO.none _)
   | (with_reducible refine LeO.ite ?_ ?_)
   | (with_reducible refine LeO.bind ?_ (fun _ => ?_))
   | exact ih0 _ _ _ _ _
   | exact ih1 _ _ _ _ _ _ _ _
   | exact ih2 _ _ _ _ _
   | exact ih3 _ _ _ _ _ _ _ _
   | exact maquettelaw07_Text.mono _ _ _
   | exact maquettelaw07_awake.mono _
   | exact text_Config.mono _ _ _
   | exact LeO.none _
   | refine LeO.ite ?_ ?_
   | refine LeO.bind ?_ (fun _ => ?_)
set_option maxHeartbeats 8000000 in
set_option maxRecDepth 100000 in
theorem maquettelaw07_TextRaw.calls (k : Nat) (A0_0 : Option Addr) (c0_0 : Nat) (l0_0 : List (S36)) (A0_1 : Option Addr) (c0_1 : Nat) (l0_1 : List (S46)) (r : Bool) (w : World) (hr0_0 : Kd.C k36 w A0_0 l0_0.length l0_0) (hc0_0 : l0_0.length ≤ c0_0) (hr0_1 : Kd.C k46 w A0_1 l0_1.length l0_1) (hc0_1 : l0_1.length ≤ c0_1) (h : maquettelaw07_TextRaw.f k l0_0 l0_1 = some r) (hInv : Go.Proofs.YtjcopneljfcfoaaDoor.Inv.Inv w) :
  Calls Tryd.prog 4 #[.agg #[.slice A0_0 l0_0.length c0_0, .slice A0_1 l0_1.length c0_1]] w fun e w' => e = .returned (.bool r) ∧ Below w.heap.size w w' := by
 have hu30 := Tryd.underlying30
 have hu36 := Tryd.underlying36
 have hu41 := Tryd.underlying41
 have hu46 := Tryd.underlying46
 have hu48 := Tryd.underlying48
 have HR0_0 := Aside0.mk hr0_0
 have HC0_0 := Aside0.mk hc0_0
 clear hr0_0 hc0_0
 have HR0_1 := Aside0.mk hr0_1
 have HC0_1 := Aside0.mk hc0_1
 clear hr0_1 hc0_1
 have HB := Aside0.mk (Below.refl w.heap.size w)
 have H : ((maquettelaw07_awake.f k).bind fun t157 => (if t157 = true then (maquettelaw07_TextRaw.l0 k l0_0 (l0_0.length : Int) 0 l0_0 l0_1) else (some false))) = some r := h
 clear h
 replace H := Option.bind_eq_some_iff.mp H
 obtain ⟨t157, A20, H⟩ := H
 replace H : (if t157 = true then (maquettelaw07_TextRaw.l0 k l0_0 (l0_0.length : Int) 0 l0_0 l0_1) else (some false)) = some r := H
 have A2 := Aside0.mk A20
 clear A20
 by_cases c3 : t157 = true
 ·subst c3
  have H1 : (maquettelaw07_TextRaw.l0 k l0_0 (l0_0.length : Int) 0 l0_0 l0_1) = some r := by rw [if_pos rfl] at H; exact H
  clear H
  have H := H1
  clear H1
  have H' := Aside0.mk H
  clear H
  go_enter Tryd.func4, Tryd.ntmps4
  go_wp2_with (first | ((with_reducible refine gate_dst (N := 1) rfl ?_); refine bx 1 (cs := #[.slice A0_0 l0_0.length c0_0, .slice A0_1 l0_1.length c0_1]) (t := 30) (h := ?_); intro gb156 hg w4 hbox hb; have BK156 := Aside0.mk hbox; have GW156 : Aside0 (w.heap.size ≤ gb156) := bge hg; have GE156 : Aside0 (w.heap.size ≤ gb156) := bge hg; replace HB := bst hb; clear hb hbox hg) | ((with_reducible refine gate_dst (N := 11) rfl ?_); refine gl (some 11) Tryd.func8 #[] ?_; (with_reducible refine (maquettelaw07_awake.calls k  true _ A2.out (Go.Proofs.YtjcopneljfcfoaaDoor.Inv.ivb hInv)).mono ?_); rintro e w5 ⟨rfl, hb⟩; refine ⟨_, rfl, ?_⟩; replace BK156 := bkb BK156 hb; replace HB := bst hb; (try clear hb); (try clear hb2); (try clear hk); (try clear hi); obtain ⟨hcz6_0, hcz6_1, hfz6_0, hfz6_1⟩ := bc2 BK156))
  go_loopg [16] k (fun kq v16 w' => ∃ (x16_1 : Int), v16 = .int .i64 x16_1 ∧ Aside0 (maquettelaw07_TextRaw.l0 kq l0_0 (l0_0.length : Int) x16_1 l0_0 l0_1 = some r) ∧ Aside0 (kq ≤ k) ∧ Aside0 (w'.heap[gb156]? = some (.cells #[(.slice A0_0 l0_0.length c0_0), (.slice A0_1 l0_1.length c0_1)] 30 (0, 0))) ∧ Aside0 (Below w.heap.size w w'))
  case atStart => exact ⟨(0), (by first | rfl | (simp; done) | (simp [*]; done)), H', ⟨Nat.le_refl _⟩, ⟨bkq BK156⟩, ⟨by repeat (first | (with_reducible first | exact HB.out | apply below_alloc | apply pw_below_drewN | apply below_drew1 | refine below_set ?_ GE156.out) | exact HB.out)⟩⟩
  case round =>
   clear H'
   try clear p2
   try clear c3
   try clear c4
   try clear hcz6_0 hcz6_1 hfz6_0 hfz6_1
   obtain ⟨x16_1, rfl, HA, HK1, BK156, HB⟩ := hrel
   cases gk with
   | zero => exact absurd HA.out (by simp [maquettelaw07_TextRaw.l0])
   | succ k1 =>
    have H := HA.out
    clear HA
    simp only [maquettelaw07_TextRaw.l0] at H
    by_cases c7 : x16_1 < (l0_0.length : Int)
    ·rw [if_pos c7] at H
     have c7b0 := decide_eq_true c7
     clear c7
     by_cases c8 : 0 ≤ x16_1
     ·rw [if_pos c8] at H
      have c8b0 := decide_eq_true c8
      clear c8
      by_cases c9 : x16_1 < (l0_0.length : Int)
      ·rw [if_pos c9] at H
       have c9b0 := decide_eq_true c9
       clear c9
       have H' := Aside0.mk H
       clear H
       have p158 : 0 ≤ (x16_1 : Int) := of_decide_eq_true (by first | (with_reducible assumption) | assumption)
       have q158 : x16_1 < (l0_0.length : Int) := of_decide_eq_true (by first | (with_reducible assumption) | assumption)
       obtain ⟨ad158, A158_1, c158_1, e158, hx158_0, hx158_1, hx158_2, hl158_1, hi158_1⟩ := at_T36 HR0_0.out x16_1 p158 q158
       cases e158
       replace hx158_0 := (HB.out.cell (World.block_lt_of_cell? w _ hx158_0)).trans hx158_0
       replace hx158_1 := (HB.out.cell (World.block_lt_of_cell? w _ hx158_1)).trans hx158_1
       replace hx158_2 := (HB.out.cell (World.block_lt_of_cell? w _ hx158_2)).trans hx158_2
       have HR158_1 := Aside0.mk hi158_1
       have HC158_1 := Aside0.mk hl158_1
       clear hi158_1 hl158_1
       replace p158 := eq_true p158
       replace q158 := eq_true q158
       go_wp2_with (first | ((with_reducible refine gate_dst (N := 4) rfl ?_); refine bx 4 (cs := #[.string (⟨#[]⟩ : ByteArray), .slice none 0 0, .int .i64 0]) (t := 36) (h := ?_); intro gb159 hg w10 hbox hb; have BK159 := Aside0.mk hbox; have GW159 : Aside0 (w.heap.size ≤ gb159) := bge hg; have GE159 : Aside0 (w.heap.size ≤ gb159) := bge hg; have NB156_159 := bne BK156 hg; have NB159_156 := bnf BK156 hg; replace BK156 := bkb BK156 hb; replace HB := bst hb; clear hb hbox hg; have hnb11 := NB159_156.out; have hnc11 := NB156_159.out; obtain ⟨hcz12_0, hcz12_1, hcz12_2, hfz12_0, hfz12_1, hfz12_2⟩ := bc3 BK159))
       go_loopg [23] k1 (fun kq v23 w' => ∃ (x23_2 : Int), v23 = .int .i64 x23_2 ∧ Aside0 (maquettelaw07_TextRaw.l1 kq l0_0 (l0_0.length : Int) x16_1 ((rd_T36 l0_0 x16_1).f1) (((rd_T36 l0_0 x16_1).f1).length : Int) x23_2 l0_0 l0_1 = some r) ∧ Aside0 (kq ≤ k1) ∧ Aside0 (w'.heap[gb156]? = some (.cells #[(.slice (some ad158) l0_0.length c0_0), (.slice A0_1 l0_1.length c0_1)] 30 (0, 0))) ∧ Aside0 (w'.heap[gb159]? = some (.cells #[.string ((rd_T36 l0_0 x16_1).f0), (.slice A158_1 ((rd_T36 l0_0 x16_1).f1).length c158_1), .int .i64 ((rd_T36 l0_0 x16_1).f2)] 36 (0, 0))) ∧ Aside0 (Below w.heap.size w w'))
       case atStart => exact ⟨(0), (by first | rfl | (simp; done) | (simp [*]; done)), H', ⟨Nat.le_refl _⟩, ⟨bkq BK156⟩, ⟨bkp BK159⟩, ⟨by repeat (first | (with_reducible first | exact HB.out | apply below_alloc | apply pw_below_drewN | apply below_drew1 | refine below_set ?_ GE156.out | refine below_set ?_ GE159.out) | exact HB.out)⟩⟩
       case round =>
        clear H'
        try clear c1
        try clear p1
        try clear q1
        try clear hx1
        try clear p2 p2
        try clear c3
        try clear c4
        try clear c7
        try clear c7b0
        try clear c8
        try clear c8b0
        try clear c9
        try clear c9b0
        try clear c11
        try clear hcz12_0 hcz12_1 hcz12_2 hfz12_0 hfz12_1 hfz12_2
        try clear hcz6_0 hcz6_1 hfz6_0 hfz6_1
        try clear hx158_0
        try clear hx158_1
        try clear hx158_2
        try clear p158
        try clear q158
        obtain ⟨x23_2, rfl, HA, HK2, BK156, BK159, HB⟩ := hrel
        cases gk with
        | zero => exact absurd HA.out (by simp [maquettelaw07_TextRaw.l1])
        | succ k2 =>
         have H := HA.out
         clear HA
         simp only [maquettelaw07_TextRaw.l1] at H
         by_cases c13 : x23_2 < (((rd_T36 l0_0 x16_1).f1).length : Int)
         ·rw [if_pos c13] at H
          have c13b0 := decide_eq_true c13
          clear c13
          by_cases c14 : 0 ≤ x23_2
          ·rw [if_pos c14] at H
           have c14b0 := decide_eq_true c14
           clear c14
           by_cases c15 : x23_2 < (((rd_T36 l0_0 x16_1).f1).length : Int)
           ·rw [if_pos c15] at H
            have c15b0 := decide_eq_true c15
            clear c15
            by_cases c16 : ((rd_T41 ((rd_T36 l0_0 x16_1).f1) x23_2).f7) < (-999999)
            ·rw [if_pos c16] at H
             have c16b0 := decide_eq_true c16
             clear c16
             obtain rfl := Option.some.inj H
             have p160 : 0 ≤ (x23_2 : Int) := of_decide_eq_true (by first | (with_reducible assumption) | assumption)
             have q160 : x23_2 < (((rd_T36 l0_0 x16_1).f1).length : Int) := of_decide_eq_true (by first | (with_reducible assumption) | assumption)
             obtain ⟨ad160, e160, hx160_0, hx160_1, hx160_2, hx160_3, hx160_4, hx160_5, hx160_6, hx160_7, hx160_8, hx160_9⟩ := at_T41 HR158_1.out x23_2 p160 q160
             cases e160
             replace hx160_0 := (HB.out.cell (World.block_lt_of_cell? w _ hx160_0)).trans hx160_0
             replace hx160_1 := (HB.out.cell (World.block_lt_of_cell? w _ hx160_1)).trans hx160_1
             replace hx160_2 := (HB.out.cell (World.block_lt_of_cell? w _ hx160_2)).trans hx160_2
             replace hx160_3 := (HB.out.cell (World.block_lt_of_cell? w _ hx160_3)).trans hx160_3
             replace hx160_4 := (HB.out.cell (World.block_lt_of_cell? w _ hx160_4)).trans hx160_4
             replace hx160_5 := (HB.out.cell (World.block_lt_of_cell? w _ hx160_5)).trans hx160_5
             replace hx160_6 := (HB.out.cell (World.block_lt_of_cell? w _ hx160_6)).trans hx160_6
             replace hx160_7 := (HB.out.cell (World.block_lt_of_cell? w _ hx160_7)).trans hx160_7
             replace hx160_8 := (HB.out.cell (World.block_lt_of_cell? w _ hx160_8)).trans hx160_8
             replace hx160_9 := (HB.out.cell (World.block_lt_of_cell? w _ hx160_9)).trans hx160_9
             replace p160 := eq_true p160
             replace q160 := eq_true q160
             go_wp2_with (first | ((with_reducible refine gate_dst (N := 6) rfl ?_); refine bx 6 (cs := #[.bool false, .int .u32 0, .int .i64 0, .int .u8 0, .int .u8 0, .bool false, .int .u8 0, .int .u8 0, .int .i64 0, .int .i64 0]) (t := 41) (h := ?_); intro gb161 hg w17 hbox hb; have BK161 := Aside0.mk hbox; have GW161 : Aside0 (w.heap.size ≤ gb161) := bge hg; have GE161 : Aside0 (w.heap.size ≤ gb161) := bge hg; have NB156_161 := bne BK156 hg; have NB161_156 := bnf BK156 hg; have NB159_161 := bne BK159 hg; have NB161_159 := bnf BK159 hg; replace BK156 := bkb BK156 hb; replace BK159 := bkb BK159 hb; replace HB := bst hb; clear hb hbox hg; have hnb18 := NB161_156.out; have hnc18 := NB156_161.out; have hnb19 := NB161_159.out; have hnc19 := NB159_161.out; obtain ⟨hcz20_0, hcz20_1, hcz20_2, hcz20_3, hcz20_4, hcz20_5, hcz20_6, hcz20_7, hcz20_8, hcz20_9, hfz20_0, hfz20_1, hfz20_2, hfz20_3, hfz20_4, hfz20_5, hfz20_6, hfz20_7, hfz20_8, hfz20_9⟩ := bc10 BK161))
             go_ret
             exact ⟨by first | rfl | (simp [errW_none, errW_some] <;> rfl) | (simp [*, errW_none, errW_some] <;> rfl), by repeat (first | (with_reducible first | exact HB.out | apply below_alloc | apply pw_below_drewN | apply below_drew1 | refine below_set ?_ GE156.out | refine below_set ?_ GE159.out | refine below_set ?_ GE161.out) | exact HB.out)⟩
            ·rw [if_neg c16] at H
             have c16b0 := decide_eq_false c16
             clear c16
             by_cases c21 : ((rd_T41 ((rd_T36 l0_0 x16_1).f1) x23_2).f8) < (-999999)
             ·rw [if_pos c21] at H
              have c21b0 := decide_eq_true c21
              clear c21
              obtain rfl := Option.some.inj H
              have p160 : 0 ≤ (x23_2 : Int) := of_decide_eq_true (by first | (with_reducible assumption) | assumption)
              have q160 : x23_2 < (((rd_T36 l0_0 x16_1).f1).length : Int) := of_decide_eq_true (by first | (with_reducible assumption) | assumption)
              obtain ⟨ad160, e160, hx160_0, hx160_1, hx160_2, hx160_3, hx160_4, hx160_5, hx160_6, hx160_7, hx160_8, hx160_9⟩ := at_T41 HR158_1.out x23_2 p160 q160
              cases e160
              replace hx160_0 := (HB.out.cell (World.block_lt_of_cell? w _ hx160_0)).trans hx160_0
              replace hx160_1 := (HB.out.cell (World.block_lt_of_cell? w _ hx160_1)).trans hx160_1
              replace hx160_2 := (HB.out.cell (World.block_lt_of_cell? w _ hx160_2)).trans hx160_2
              replace hx160_3 := (HB.out.cell (World.block_lt_of_cell? w _ hx160_3)).trans hx160_3
              replace hx160_4 := (HB.out.cell (World.block_lt_of_cell? w _ hx160_4)).trans hx160_4
              replace hx160_5 := (HB.out.cell (World.block_lt_of_cell? w _ hx160_5)).trans hx160_5
              replace hx160_6 := (HB.out.cell (World.block_lt_of_cell? w _ hx160_6)).trans hx160_6
              replace hx160_7 := (HB.out.cell (World.block_lt_of_cell? w _ hx160_7)).trans hx160_7
              replace hx160_8 := (HB.out.cell (World.block_lt_of_cell? w _ hx160_8)).trans hx160_8
              replace hx160_9 := (HB.out.cell (World.block_lt_of_cell? w _ hx160_9)).trans hx160_9
              replace p160 := eq_true p160
              replace q160 := eq_true q160
              go_wp2_with (first | ((with_reducible refine gate_dst (N := 6) rfl ?_); refine bx 6 (cs := #[.bool false, .int .u32 0, .int .i64 0, .int .u8 0, .int .u8 0, .bool false, .int .u8 0, .int .u8 0, .int .i64 0, .int .i64 0]) (t := 41) (h := ?_); intro gb161 hg w22 hbox hb; have BK161 := Aside0.mk hbox; have GW161 : Aside0 (w.heap.size ≤ gb161) := bge hg; have GE161 : Aside0 (w.heap.size ≤ gb161) := bge hg; have NB156_161 := bne BK156 hg; have NB161_156 := bnf BK156 hg; have NB159_161 := bne BK159 hg; have NB161_159 := bnf BK159 hg; replace BK156 := bkb BK156 hb; replace BK159 := bkb BK159 hb; replace HB := bst hb; clear hb hbox hg; have hnb23 := NB161_156.out; have hnc23 := NB156_161.out; have hnb24 := NB161_159.out; have hnc24 := NB159_161.out; obtain ⟨hcz25_0, hcz25_1, hcz25_2, hcz25_3, hcz25_4, hcz25_5, hcz25_6, hcz25_7, hcz25_8, hcz25_9, hfz25_0, hfz25_1, hfz25_2, hfz25_3, hfz25_4, hfz25_5, hfz25_6, hfz25_7, hfz25_8, hfz25_9⟩ := bc10 BK161))
              go_ret
              exact ⟨by first | rfl | (simp [errW_none, errW_some] <;> rfl) | (simp [*, errW_none, errW_some] <;> rfl), by repeat (first | (with_reducible first | exact HB.out | apply below_alloc | apply pw_below_drewN | apply below_drew1 | refine below_set ?_ GE156.out | refine below_set ?_ GE159.out | refine below_set ?_ GE161.out) | exact HB.out)⟩
             ·rw [if_neg c21] at H
              have c21b0 := decide_eq_false c21
              clear c21
              have H' := Aside0.mk H
              clear H
              have p160 : 0 ≤ (x23_2 : Int) := of_decide_eq_true (by first | (with_reducible assumption) | assumption)
              have q160 : x23_2 < (((rd_T36 l0_0 x16_1).f1).length : Int) := of_decide_eq_true (by first | (with_reducible assumption) | assumption)
              obtain ⟨ad160, e160, hx160_0, hx160_1, hx160_2, hx160_3, hx160_4, hx160_5, hx160_6, hx160_7, hx160_8, hx160_9⟩ := at_T41 HR158_1.out x23_2 p160 q160
              cases e160
              replace hx160_0 := (HB.out.cell (World.block_lt_of_cell? w _ hx160_0)).trans hx160_0
              replace hx160_1 := (HB.out.cell (World.block_lt_of_cell? w _ hx160_1)).trans hx160_1
              replace hx160_2 := (HB.out.cell (World.block_lt_of_cell? w _ hx160_2)).trans hx160_2
              replace hx160_3 := (HB.out.cell (World.block_lt_of_cell? w _ hx160_3)).trans hx160_3
              replace hx160_4 := (HB.out.cell (World.block_lt_of_cell? w _ hx160_4)).trans hx160_4
              replace hx160_5 := (HB.out.cell (World.block_lt_of_cell? w _ hx160_5)).trans hx160_5
              replace hx160_6 := (HB.out.cell (World.block_lt_of_cell? w _ hx160_6)).trans hx160_6
              replace hx160_7 := (HB.out.cell (World.block_lt_of_cell? w _ hx160_7)).trans hx160_7
              replace hx160_8 := (HB.out.cell (World.block_lt_of_cell? w _ hx160_8)).trans hx160_8
              replace hx160_9 := (HB.out.cell (World.block_lt_of_cell? w _ hx160_9)).trans hx160_9
              replace p160 := eq_true p160
              replace q160 := eq_true q160
              go_wp2_with (first | ((with_reducible refine gate_dst (N := 6) rfl ?_); refine bx 6 (cs := #[.bool false, .int .u32 0, .int .i64 0, .int .u8 0, .int .u8 0, .bool false, .int .u8 0, .int .u8 0, .int .i64 0, .int .i64 0]) (t := 41) (h := ?_); intro gb161 hg w26 hbox hb; have BK161 := Aside0.mk hbox; have GW161 : Aside0 (w.heap.size ≤ gb161) := bge hg; have GE161 : Aside0 (w.heap.size ≤ gb161) := bge hg; have NB156_161 := bne BK156 hg; have NB161_156 := bnf BK156 hg; have NB159_161 := bne BK159 hg; have NB161_159 := bnf BK159 hg; replace BK156 := bkb BK156 hb; replace BK159 := bkb BK159 hb; replace HB := bst hb; clear hb hbox hg; have hnb27 := NB161_156.out; have hnc27 := NB156_161.out; have hnb28 := NB161_159.out; have hnc28 := NB159_161.out; obtain ⟨hcz29_0, hcz29_1, hcz29_2, hcz29_3, hcz29_4, hcz29_5, hcz29_6, hcz29_7, hcz29_8, hcz29_9, hfz29_0, hfz29_1, hfz29_2, hfz29_3, hfz29_4, hfz29_5, hfz29_6, hfz29_7, hfz29_8, hfz29_9⟩ := bc10 BK161))
              go_roundg k2
              case measure => have := HK1.out; have := HK2.out; omega
              case rel => exact ⟨(wrap64 (x23_2 + 1)), (by first | rfl | (simp; done) | (simp [*]; done)), H', ⟨by have := HK1.out; have := HK2.out; omega⟩, ⟨bkq BK156⟩, ⟨bkq BK159⟩, ⟨by repeat (first | (with_reducible first | exact HB.out | apply below_alloc | apply pw_below_drewN | apply below_drew1 | refine below_set ?_ GE156.out | refine below_set ?_ GE159.out | refine below_set ?_ GE161.out) | exact HB.out)⟩⟩
           ·rw [if_neg c15] at H
            exact absurd H (by simp)
          ·rw [if_neg c14] at H
           exact absurd H (by simp)
         ·rw [if_neg c13] at H
          have c13b0 := decide_eq_false c13
          clear c13
          have H' := Aside0.mk H
          clear H
          go_wp2
          go_roundg k2
          case measure => have := HK1.out; have := HK2.out; omega
          case rel => exact ⟨(wrap64 (x16_1 + 1)), (by first | rfl | (simp; done) | (simp [*]; done)), H', ⟨by have := HK1.out; have := HK2.out; omega⟩, ⟨bkq BK156⟩, ⟨by repeat (first | (with_reducible first | exact HB.out | apply below_alloc | apply pw_below_drewN | apply below_drew1 | refine below_set ?_ GE156.out | refine below_set ?_ GE159.out) | exact HB.out)⟩⟩
      ·rw [if_neg c9] at H
       exact absurd H (by simp)
     ·rw [if_neg c8] at H
      exact absurd H (by simp)
    ·rw [if_neg c7] at H
     have c7b0 := decide_eq_false c7
     clear c7
     have H' := Aside0.mk H
     clear H
     obtain ⟨hcz30_0, hcz30_1, hfz30_0, hfz30_1⟩ := bc2 BK156
     go_wp2
     go_loopg [40] k1 (fun kq v40 w' => ∃ (x40_2 : Int), v40 = .int .i64 x40_2 ∧ Aside0 (maquettelaw07_TextRaw.l2 kq l0_1 (l0_1.length : Int) x40_2 l0_0 l0_1 = some r) ∧ Aside0 (kq ≤ k1) ∧ Aside0 (w'.heap[gb156]? = some (.cells #[(.slice A0_0 l0_0.length c0_0), (.slice A0_1 l0_1.length c0_1)] 30 (0, 0))) ∧ Aside0 (Below w.heap.size w w'))
     case atStart => exact ⟨(0), (by first | rfl | (simp; done) | (simp [*]; done)), H', ⟨Nat.le_refl _⟩, ⟨bkq BK156⟩, ⟨by repeat (first | (with_reducible first | exact HB.out | apply below_alloc | apply pw_below_drewN | apply below_drew1 | refine below_set ?_ GE156.out) | exact HB.out)⟩⟩
     case round =>
      clear H'
      try clear c1
      try clear p1 p1
      try clear q1 q1
      try clear hx1
      try clear c2
      try clear p2 p2
      try clear c3
      try clear c4
      try clear p6
      try clear c7
      try clear c7b0
      try clear c8
      try clear c8b0
      try clear c9
      try clear c9b0
      try clear c11
      try clear c13
      try clear c13b0
      try clear c14
      try clear c14b0
      try clear c15
      try clear c15b0
      try clear p15
      try clear q15
      try clear hx15
      try clear c16
      try clear c16b0
      try clear p16
      try clear q16
      try clear hx16
      try clear c18
      try clear c19
      try clear c21
      try clear c21b0
      try clear c23
      try clear c24
      try clear c27
      try clear c28
      try clear hcz12_0 hcz12_1 hcz12_2 hfz12_0 hfz12_1 hfz12_2
      try clear hcz20_0 hcz20_1 hcz20_2 hcz20_3 hcz20_4 hcz20_5 hcz20_6 hcz20_7 hcz20_8 hcz20_9 hfz20_0 hfz20_1 hfz20_2 hfz20_3 hfz20_4 hfz20_5 hfz20_6 hfz20_7 hfz20_8 hfz20_9
      try clear hcz25_0 hcz25_1 hcz25_2 hcz25_3 hcz25_4 hcz25_5 hcz25_6 hcz25_7 hcz25_8 hcz25_9 hfz25_0 hfz25_1 hfz25_2 hfz25_3 hfz25_4 hfz25_5 hfz25_6 hfz25_7 hfz25_8 hfz25_9
      try clear hcz29_0 hcz29_1 hcz29_2 hcz29_3 hcz29_4 hcz29_5 hcz29_6 hcz29_7 hcz29_8 hcz29_9 hfz29_0 hfz29_1 hfz29_2 hfz29_3 hfz29_4 hfz29_5 hfz29_6 hfz29_7 hfz29_8 hfz29_9
      try clear hcz30_0 hcz30_1 hfz30_0 hfz30_1
      try clear hcz6_0 hcz6_1 hfz6_0 hfz6_1
      try clear hx158_0
      try clear hx158_1
      try clear hx158_2
      try clear hx160_0
      try clear hx160_1
      try clear hx160_2
      try clear hx160_3
      try clear hx160_4
      try clear hx160_5
      try clear hx160_6
      try clear hx160_7
      try clear hx160_8
      try clear hx160_9
      try clear p158
      try clear p160
      try clear q158
      try clear q160
      obtain ⟨x40_2, rfl, HA, HK2, BK156, HB⟩ := hrel
      cases gk with
      | zero => exact absurd HA.out (by simp [maquettelaw07_TextRaw.l2])
      | succ k2 =>
       have H := HA.out
       clear HA
       simp only [maquettelaw07_TextRaw.l2] at H
       by_cases c31 : x40_2 < (l0_1.length : Int)
       ·rw [if_pos c31] at H
        have c31b0 := decide_eq_true c31
        clear c31
        by_cases c32 : 0 ≤ x40_2
        ·rw [if_pos c32] at H
         have c32b0 := decide_eq_true c32
         clear c32
         by_cases c33 : x40_2 < (l0_1.length : Int)
         ·rw [if_pos c33] at H
          have c33b0 := decide_eq_true c33
          clear c33
          have H' := Aside0.mk H
          clear H
          have p164 : 0 ≤ (x40_2 : Int) := of_decide_eq_true (by first | (with_reducible assumption) | assumption)
          have q164 : x40_2 < (l0_1.length : Int) := of_decide_eq_true (by first | (with_reducible assumption) | assumption)
          obtain ⟨ad164, A164_1, c164_1, A164_2, c164_2, A164_3, c164_3, e164, hx164_0, hx164_1, hx164_2, hx164_3, hx164_4, hl164_1, hi164_1, hl164_2, hi164_2, hl164_3, hi164_3⟩ := at_T46 HR0_1.out x40_2 p164 q164
          cases e164
          replace hx164_0 := (HB.out.cell (World.block_lt_of_cell? w _ hx164_0)).trans hx164_0
          replace hx164_1 := (HB.out.cell (World.block_lt_of_cell? w _ hx164_1)).trans hx164_1
          replace hx164_2 := (HB.out.cell (World.block_lt_of_cell? w _ hx164_2)).trans hx164_2
          replace hx164_3 := (HB.out.cell (World.block_lt_of_cell? w _ hx164_3)).trans hx164_3
          replace hx164_4 := (HB.out.cell (World.block_lt_of_cell? w _ hx164_4)).trans hx164_4
          have HR164_1 := Aside0.mk hi164_1
          have HC164_1 := Aside0.mk hl164_1
          clear hi164_1 hl164_1
          have HR164_2 := Aside0.mk hi164_2
          have HC164_2 := Aside0.mk hl164_2
          clear hi164_2 hl164_2
          have HR164_3 := Aside0.mk hi164_3
          have HC164_3 := Aside0.mk hl164_3
          clear hi164_3 hl164_3
          replace p164 := eq_true p164
          replace q164 := eq_true q164
          go_wp2_with (first | ((with_reducible refine gate_dst (N := 8) rfl ?_); refine bx 8 (cs := #[.string (⟨#[]⟩ : ByteArray), .slice none 0 0, .slice none 0 0, .slice none 0 0, .int .i64 0]) (t := 46) (h := ?_); intro gb165 hg w34 hbox hb; have BK165 := Aside0.mk hbox; have GW165 : Aside0 (w.heap.size ≤ gb165) := bge hg; have GE165 : Aside0 (w.heap.size ≤ gb165) := bge hg; have NB156_165 := bne BK156 hg; have NB165_156 := bnf BK156 hg; replace BK156 := bkb BK156 hb; replace HB := bst hb; clear hb hbox hg; have hnb35 := NB165_156.out; have hnc35 := NB156_165.out; obtain ⟨hcz36_0, hcz36_1, hcz36_2, hcz36_3, hcz36_4, hfz36_0, hfz36_1, hfz36_2, hfz36_3, hfz36_4⟩ := bc5 BK165))
          go_loopg [47] k2 (fun kq v47 w' => ∃ (x47_3 : Int), v47 = .int .i64 x47_3 ∧ Aside0 (maquettelaw07_TextRaw.l3 kq l0_1 (l0_1.length : Int) x40_2 ((rd_T46 l0_1 x40_2).f2) (((rd_T46 l0_1 x40_2).f2).length : Int) x47_3 l0_0 l0_1 = some r) ∧ Aside0 (kq ≤ k2) ∧ Aside0 (w'.heap[gb156]? = some (.cells #[(.slice A0_0 l0_0.length c0_0), (.slice (some ad164) l0_1.length c0_1)] 30 (0, 0))) ∧ Aside0 (w'.heap[gb165]? = some (.cells #[.string ((rd_T46 l0_1 x40_2).f0), (.slice A164_1 ((rd_T46 l0_1 x40_2).f1).length c164_1), (.slice A164_2 ((rd_T46 l0_1 x40_2).f2).length c164_2), (.slice A164_3 ((rd_T46 l0_1 x40_2).f3).length c164_3), .int .i64 ((rd_T46 l0_1 x40_2).f4)] 46 (0, 0))) ∧ Aside0 (Below w.heap.size w w'))
          case atStart => exact ⟨(0), (by first | rfl | (simp; done) | (simp [*]; done)), H', ⟨Nat.le_refl _⟩, ⟨bkq BK156⟩, ⟨bkp BK165⟩, ⟨by repeat (first | (with_reducible first | exact HB.out | apply below_alloc | apply pw_below_drewN | apply below_drew1 | refine below_set ?_ GE156.out | refine below_set ?_ GE165.out) | exact HB.out)⟩⟩
          case round =>
           clear H'
           try clear c1
           try clear p1 p1
           try clear q1 q1
           try clear hx1
           try clear c2
           try clear p2 p2
           try clear c3
           try clear c4
           try clear p6 p6
           try clear c7
           try clear c7b0
           try clear c8
           try clear c8b0
           try clear c9
           try clear c9b0
           try clear c11
           try clear c13
           try clear c13b0
           try clear c14
           try clear c14b0
           try clear c15
           try clear c15b0
           try clear p15 p15
           try clear q15 q15
           try clear hx15
           try clear c16
           try clear c16b0
           try clear p16 p16
           try clear q16 q16
           try clear hx16
           try clear c18
           try clear c19
           try clear c21
           try clear c21b0
           try clear c23
           try clear c24
           try clear c27
           try clear c28
           try clear c31
           try clear c31b0
           try clear c32
           try clear c32b0
           try clear c33
           try clear c33b0
           try clear c35
           try clear hcz12_0 hcz12_1 hcz12_2 hfz12_0 hfz12_1 hfz12_2
           try clear hcz20_0 hcz20_1 hcz20_2 hcz20_3 hcz20_4 hcz20_5 hcz20_6 hcz20_7 hcz20_8 hcz20_9 hfz20_0 hfz20_1 hfz20_2 hfz20_3 hfz20_4 hfz20_5 hfz20_6 hfz20_7 hfz20_8 hfz20_9
           try clear hcz25_0 hcz25_1 hcz25_2 hcz25_3 hcz25_4 hcz25_5 hcz25_6 hcz25_7 hcz25_8 hcz25_9 hfz25_0 hfz25_1 hfz25_2 hfz25_3 hfz25_4 hfz25_5 hfz25_6 hfz25_7 hfz25_8 hfz25_9
           try clear hcz29_0 hcz29_1 hcz29_2 hcz29_3 hcz29_4 hcz29_5 hcz29_6 hcz29_7 hcz29_8 hcz29_9 hfz29_0 hfz29_1 hfz29_2 hfz29_3 hfz29_4 hfz29_5 hfz29_6 hfz29_7 hfz29_8 hfz29_9
           try clear hcz30_0 hcz30_1 hfz30_0 hfz30_1
           try clear hcz36_0 hcz36_1 hcz36_2 hcz36_3 hcz36_4 hfz36_0 hfz36_1 hfz36_2 hfz36_3 hfz36_4
           try clear hcz6_0 hcz6_1 hfz6_0 hfz6_1
           try clear hx158_0
           try clear hx158_1
           try clear hx158_2
           try clear hx160_0
           try clear hx160_1
           try clear hx160_2
           try clear hx160_3
           try clear hx160_4
           try clear hx160_5
           try clear hx160_6
           try clear hx160_7
           try clear hx160_8
           try clear hx160_9
           try clear hx164_0
           try clear hx164_1
           try clear hx164_2
           try clear hx164_3
           try clear hx164_4
           try clear p158
           try clear p160
           try clear p164
           try clear q158
           try clear q160
           try clear q164
           obtain ⟨x47_3, rfl, HA, HK3, BK156, BK165, HB⟩ := hrel
           cases gk with
           | zero => exact absurd HA.out (by simp [maquettelaw07_TextRaw.l3])
           | succ k3 =>
            have H := HA.out
            clear HA
            simp only [maquettelaw07_TextRaw.l3] at H
            by_cases c37 : x47_3 < (((rd_T46 l0_1 x40_2).f2).length : Int)
            ·rw [if_pos c37] at H
             have c37b0 := decide_eq_true c37
             clear c37
             by_cases c38 : 0 ≤ x47_3
             ·rw [if_pos c38] at H
              have c38b0 := decide_eq_true c38
              clear c38
              by_cases c39 : x47_3 < (((rd_T46 l0_1 x40_2).f2).length : Int)
              ·rw [if_pos c39] at H
               have c39b0 := decide_eq_true c39
               clear c39
               by_cases c40 : ((rd_T48 ((rd_T46 l0_1 x40_2).f2) x47_3).f1) < (-999999)
               ·rw [if_pos c40] at H
                have c40b0 := decide_eq_true c40
                clear c40
                obtain rfl := Option.some.inj H
                have p166 : 0 ≤ (x47_3 : Int) := of_decide_eq_true (by first | (with_reducible assumption) | assumption)
                have q166 : x47_3 < (((rd_T46 l0_1 x40_2).f2).length : Int) := of_decide_eq_true (by first | (with_reducible assumption) | assumption)
                obtain ⟨ad166, e166, hx166_0, hx166_1, hx166_2, hx166_3, hx166_4⟩ := at_T48 HR164_2.out x47_3 p166 q166
                cases e166
                replace hx166_0 := (HB.out.cell (World.block_lt_of_cell? w _ hx166_0)).trans hx166_0
                replace hx166_1 := (HB.out.cell (World.block_lt_of_cell? w _ hx166_1)).trans hx166_1
                replace hx166_2 := (HB.out.cell (World.block_lt_of_cell? w _ hx166_2)).trans hx166_2
                replace hx166_3 := (HB.out.cell (World.block_lt_of_cell? w _ hx166_3)).trans hx166_3
                replace hx166_4 := (HB.out.cell (World.block_lt_of_cell? w _ hx166_4)).trans hx166_4
                replace p166 := eq_true p166
                replace q166 := eq_true q166
                go_wp2_with (first | ((with_reducible refine gate_dst (N := 10) rfl ?_); refine bx 10 (cs := #[.string (⟨#[]⟩ : ByteArray), .int .i64 0, .string (⟨#[]⟩ : ByteArray), .string (⟨#[]⟩ : ByteArray), .int .i64 0]) (t := 48) (h := ?_); intro gb167 hg w41 hbox hb; have BK167 := Aside0.mk hbox; have GW167 : Aside0 (w.heap.size ≤ gb167) := bge hg; have GE167 : Aside0 (w.heap.size ≤ gb167) := bge hg; have NB156_167 := bne BK156 hg; have NB167_156 := bnf BK156 hg; have NB165_167 := bne BK165 hg; have NB167_165 := bnf BK165 hg; replace BK156 := bkb BK156 hb; replace BK165 := bkb BK165 hb; replace HB := bst hb; clear hb hbox hg; have hnb42 := NB167_156.out; have hnc42 := NB156_167.out; have hnb43 := NB167_165.out; have hnc43 := NB165_167.out; obtain ⟨hcz44_0, hcz44_1, hcz44_2, hcz44_3, hcz44_4, hfz44_0, hfz44_1, hfz44_2, hfz44_3, hfz44_4⟩ := bc5 BK167))
                go_ret
                exact ⟨by first | rfl | (simp [errW_none, errW_some] <;> rfl) | (simp [*, errW_none, errW_some] <;> rfl), by repeat (first | (with_reducible first | exact HB.out | apply below_alloc | apply pw_below_drewN | apply below_drew1 | refine below_set ?_ GE156.out | refine below_set ?_ GE165.out | refine below_set ?_ GE167.out) | exact HB.out)⟩
               ·rw [if_neg c40] at H
                have c40b0 := decide_eq_false c40
                clear c40
                have H' := Aside0.mk H
                clear H
                have p166 : 0 ≤ (x47_3 : Int) := of_decide_eq_true (by first | (with_reducible assumption) | assumption)
                have q166 : x47_3 < (((rd_T46 l0_1 x40_2).f2).length : Int) := of_decide_eq_true (by first | (with_reducible assumption) | assumption)
                obtain ⟨ad166, e166, hx166_0, hx166_1, hx166_2, hx166_3, hx166_4⟩ := at_T48 HR164_2.out x47_3 p166 q166
                cases e166
                replace hx166_0 := (HB.out.cell (World.block_lt_of_cell? w _ hx166_0)).trans hx166_0
                replace hx166_1 := (HB.out.cell (World.block_lt_of_cell? w _ hx166_1)).trans hx166_1
                replace hx166_2 := (HB.out.cell (World.block_lt_of_cell? w _ hx166_2)).trans hx166_2
                replace hx166_3 := (HB.out.cell (World.block_lt_of_cell? w _ hx166_3)).trans hx166_3
                replace hx166_4 := (HB.out.cell (World.block_lt_of_cell? w _ hx166_4)).trans hx166_4
                replace p166 := eq_true p166
                replace q166 := eq_true q166
                go_wp2_with (first | ((with_reducible refine gate_dst (N := 10) rfl ?_); refine bx 10 (cs := #[.string (⟨#[]⟩ : ByteArray), .int .i64 0, .string (⟨#[]⟩ : ByteArray), .string (⟨#[]⟩ : ByteArray), .int .i64 0]) (t := 48) (h := ?_); intro gb167 hg w45 hbox hb; have BK167 := Aside0.mk hbox; have GW167 : Aside0 (w.heap.size ≤ gb167) := bge hg; have GE167 : Aside0 (w.heap.size ≤ gb167) := bge hg; have NB156_167 := bne BK156 hg; have NB167_156 := bnf BK156 hg; have NB165_167 := bne BK165 hg; have NB167_165 := bnf BK165 hg; replace BK156 := bkb BK156 hb; replace BK165 := bkb BK165 hb; replace HB := bst hb; clear hb hbox hg; have hnb46 := NB167_156.out; have hnc46 := NB156_167.out; have hnb47 := NB167_165.out; have hnc47 := NB165_167.out; obtain ⟨hcz48_0, hcz48_1, hcz48_2, hcz48_3, hcz48_4, hfz48_0, hfz48_1, hfz48_2, hfz48_3, hfz48_4⟩ := bc5 BK167))
                go_roundg k3
                case measure => have := HK1.out; have := HK2.out; have := HK3.out; omega
                case rel => exact ⟨(wrap64 (x47_3 + 1)), (by first | rfl | (simp; done) | (simp [*]; done)), H', ⟨by have := HK1.out; have := HK2.out; have := HK3.out; omega⟩, ⟨bkq BK156⟩, ⟨bkq BK165⟩, ⟨by repeat (first | (with_reducible first | exact HB.out | apply below_alloc | apply pw_below_drewN | apply below_drew1 | refine below_set ?_ GE156.out | refine below_set ?_ GE165.out | refine below_set ?_ GE167.out) | exact HB.out)⟩⟩
              ·rw [if_neg c39] at H
               exact absurd H (by simp)
             ·rw [if_neg c38] at H
              exact absurd H (by simp)
            ·rw [if_neg c37] at H
             have c37b0 := decide_eq_false c37
             clear c37
             have H' := Aside0.mk H
             clear H
             go_wp2
             go_roundg k3
             case measure => have := HK1.out; have := HK2.out; have := HK3.out; omega
             case rel => exact ⟨(wrap64 (x40_2 + 1)), (by first | rfl | (simp; done) | (simp [*]; done)), H', ⟨by have := HK1.out; have := HK2.out; have := HK3.out; omega⟩, ⟨bkq BK156⟩, ⟨by repeat (first | (with_reducible first | exact HB.out | apply below_alloc | apply pw_below_drewN | apply below_drew1 | refine below_set ?_ GE156.out | refine below_set ?_ GE165.out) | exact HB.out)⟩⟩
         ·rw [if_neg c33] at H
          exact absurd H (by simp)
        ·rw [if_neg c32] at H
         exact absurd H (by simp)
       ·rw [if_neg c31] at H
        have c31b0 := decide_eq_false c31
        clear c31
        replace H := Option.bind_eq_some_iff.mp H
        obtain ⟨t162, A490, H⟩ := H
        replace H : ((maquettelaw07_Text.f k2 l0_0 l0_1).bind fun t163 => (some (t162.toList == t163.toList))) = some r := H
        have A49 := Aside0.mk A490
        clear A490
        replace H := Option.bind_eq_some_iff.mp H
        obtain ⟨t163, A500, H⟩ := H
        replace H : (some (t162.toList == t163.toList)) = some r := H
        have A50 := Aside0.mk A500
        clear A500
        obtain rfl := Option.some.inj H
        try go_wp2
        replace BK156 := Aside0.mk (blk_drew BK156.out)
        replace HB := Aside0.mk (below_drew1 HB.out)
        refine start_ (n := 6) (S := fun w' => CE2 w' gb156 (.slice A0_0 l0_0.length c0_0) (.slice A0_1 l0_1.length c0_1)) (ds := []) #[false, false, false, false, false, false] (by kernel_rfl) rfl rfl (he2 BK156) (fun hHeld => ?_)
        generalize wr.drew = w51 at BK156 HB hHeld ⊢
        refine take_ (i := 0) (N := some 56) (v := ?_) (a' := ?_) #[true, false, false, false, false, false] rfl rfl (by kernel_rfl) (fun _ _ _ h => h) (Or.inl ⟨by rfl, ?_⟩) hHeld ?_ ?_
        rotate_left
        ·rintro w' ⟨s0, s1⟩
         go_simp
         with_reducible rfl
        rotate_left
        ·simp only [Act.put, List.setIfInBounds_toArray, List.set_cons_zero, List.set_cons_succ, i64_w, i32_w]
         rfl
        refine take_ (i := 2) (N := some 58) (v := ?_) (a' := ?_) #[true, false, true, false, false, false] rfl rfl (by kernel_rfl) (fun _ _ _ h => h) (Or.inl ⟨by rfl, ?_⟩) hHeld ?_ ?_
        rotate_left
        ·rintro w' ⟨s0, s1⟩
         go_simp
         with_reducible rfl
        rotate_left
        ·simp only [Act.put, List.setIfInBounds_toArray, List.set_cons_zero, List.set_cons_succ, i64_w, i32_w]
         rfl
        refine one_ (i := 1) (N := some 57) #[true, true, true, false, false, false] rfl rfl (by kernel_rfl) (by decide) (fun K hK => ?_)
        refine go1 Tryd.func10 #[.agg #[.slice A0_0 l0_0.length c0_0, .slice A0_1 l0_1.length c0_1]] ?_
        with_reducible refine (text_Config.calls k2 _ _ l0_0 _ _ l0_1 t162 _ ?side1 ?side2 ?side3 ?side4 A49.out (Go.Proofs.YtjcopneljfcfoaaDoor.Inv.ivb hInv)).mono ?_
        (case side1 => exact kcb HR0_0)
        (case side2 => exact HC0_0.out)
        (case side3 => exact kcb HR0_1)
        (case side4 => exact HC0_1.out)
        rintro e w52 ⟨rfl, hb⟩
        refine ⟨_, rfl, ?_⟩
        replace BK156 := bkb BK156 hb
        replace HB := bst hb
        (try clear hb)
        (try clear hb2)
        (try clear hk)
        (try clear hi)
        refine hK.out _ _ (he2 BK156) (fun hHeld => ?_)
        clear hK K
        refine nm (some 57) ?_
        refine one_ (i := 3) (N := some 59) #[true, true, true, true, false, false] rfl rfl (by kernel_rfl) (by decide) (fun K hK => ?_)
        refine go1 Tryd.func11 #[.agg #[.slice A0_0 l0_0.length c0_0, .slice A0_1 l0_1.length c0_1]] ?_
        with_reducible refine (maquettelaw07_Text.calls k2 _ _ l0_0 _ _ l0_1 t163 _ ?side1 ?side2 ?side3 ?side4 A50.out (Go.Proofs.YtjcopneljfcfoaaDoor.Inv.ivb hInv)).mono ?_
        (case side1 => exact kcb HR0_0)
        (case side2 => exact HC0_0.out)
        (case side3 => exact kcb HR0_1)
        (case side4 => exact HC0_1.out)
        rintro e w53 ⟨rfl, hb⟩
        refine ⟨_, rfl, ?_⟩
        replace BK156 := bkb BK156 hb
        replace HB := bst hb
        (try clear hb)
        (try clear hb2)
        (try clear hk)
        (try clear hi)
        refine hK.out _ _ (he2 BK156) (fun hHeld => ?_)
        clear hK K
        refine nm (some 59) ?_
        refine pure_ (i := 4) (N := some 60) (v := ?_) (a' := ?_) #[true, true, true, true, true, false] rfl rfl (by kernel_rfl) (fun _ _ _ h => h) (Or.inl ⟨by rfl, ?_⟩) ?_ ?_
        rotate_left
        ·intro w'
         go_simp
         with_reducible rfl
        rotate_left
        ·simp only [Act.put, List.setIfInBounds_toArray, List.set_cons_zero, List.set_cons_succ, i64_w, i32_w]
         rfl
        refine pure_ (i := 5) (N := some 2) (v := ?_) (a' := ?_) #[true, true, true, true, true, true] rfl rfl (by kernel_rfl) (fun _ _ _ h => h) (Or.inl ⟨by rfl, ?_⟩) ?_ ?_
        rotate_left
        ·intro w'
         go_simp
         with_reducible rfl
        rotate_left
        ·simp only [Act.put, List.setIfInBounds_toArray, List.set_cons_zero, List.set_cons_succ, i64_w, i32_w]
         rfl
        refine done_ (by kernel_rfl) ?_
        try go_wp2
        go_ret
        exact ⟨by first | rfl | (simp [errW_none, errW_some] <;> rfl) | (simp [*, errW_none, errW_some] <;> rfl), by repeat (first | (with_reducible first | exact HB.out | apply below_alloc | apply pw_below_drewN | apply below_drew1 | refine below_set ?_ GE156.out) | exact HB.out)⟩
 ·replace c3 := Bool.eq_false_iff.mpr c3
  subst c3
  have H1 : (some false) = some r := by rw [if_neg (show ¬ (false = true) by decide)] at H; exact H
  clear H
  have H := H1
  clear H1
  obtain rfl := Option.some.inj H
  go_enter Tryd.func4, Tryd.ntmps4
  go_wp2_with (first | ((with_reducible refine gate_dst (N := 1) rfl ?_); refine bx 1 (cs := #[.slice A0_0 l0_0.length c0_0, .slice A0_1 l0_1.length c0_1]) (t := 30) (h := ?_); intro gb156 hg w54 hbox hb; have BK156 := Aside0.mk hbox; have GW156 : Aside0 (w.heap.size ≤ gb156) := bge hg; have GE156 : Aside0 (w.heap.size ≤ gb156) := bge hg; replace HB := bst hb; clear hb hbox hg) | ((with_reducible refine gate_dst (N := 11) rfl ?_); refine gl (some 11) Tryd.func8 #[] ?_; (with_reducible refine (maquettelaw07_awake.calls k  false _ A2.out (Go.Proofs.YtjcopneljfcfoaaDoor.Inv.ivb hInv)).mono ?_); rintro e w55 ⟨rfl, hb⟩; refine ⟨_, rfl, ?_⟩; replace BK156 := bkb BK156 hb; replace HB := bst hb; (try clear hb); (try clear hb2); (try clear hk); (try clear hi)))
  go_ret
  exact ⟨by first | rfl | (simp [errW_none, errW_some] <;> rfl) | (simp [*, errW_none, errW_some] <;> rfl), by repeat (first | (with_reducible first | exact HB.out | apply below_alloc | apply pw_below_drewN | apply below_drew1 | refine below_set ?_ GE156.out) | exact HB.out)⟩

end Go.Proofs.YtjcopneljfcfoaaDoor.PRaw
