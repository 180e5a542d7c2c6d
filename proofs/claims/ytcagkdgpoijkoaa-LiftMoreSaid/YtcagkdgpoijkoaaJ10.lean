/- Texts of this work, joined: PLmx20, PLmx21, PLmx22. -/
import Derived.Test.YtcagkdgpoijkoaaShort
import Derived.Test.YtcagkdgpoijkoaaSh2
import Derived.Test.YtcagkdgpoijkoaaPLmx0
section
namespace Go.Proofs.Ytcagkdgpoijkoaa.PLm
open Go.RowKit Go.Proofs.Ytcagkdgpoijkoaa.Short Go.Proofs.YtcagkdgpoijkoaaW.PrintWords Go.Proofs.YtcagkdgpoijkoaaW.PrintLast Go.Proofs.YtcagkdgpoijkoaaW.PrintMore
attribute [local go_sem] max2_int min2_int max_two min_two max_three min_three max_four min_four
set_option linter.unusedVariables false
set_option linter.unusedSimpArgs false
def stable_Fixed.f (l0_0 : List Bool) (l0_1 : List Int) (l0_2 : List (List (S51))) (a1 : Int) : Option (Bool) := if a1 ≥ 0 then (if a1 < (l0_0.length : Int) then (if 0 ≤ a1 then (if rdOf false l0_0 a1 = true then (some true) else (if a1 < (l0_1.length : Int) then (some (decide ((rd l0_1 a1) ≥ 0))) else (some false))) else (none)) else (some false)) else (some false)
set_option maxHeartbeats 8000000 in
set_option maxRecDepth 100000 in
theorem stable_Fixed.calls (A0_0 : Option Addr) (c0_0 : Nat) (l0_0 : List Bool) (A0_1 : Option Addr) (c0_1 : Nat) (l0_1 : List Int) (A0_2 : Option Addr) (c0_2 : Nat) (l0_2 : List (List (S51))) (a1 : Int) (r : Bool) (w : World) (hr0_0 : Kd.C Kd.bool w A0_0 l0_0.length l0_0) (hc0_0 : l0_0.length ≤ c0_0) (hr0_1 : Kd.C (Kd.int .i64) w A0_1 l0_1.length l0_1) (hc0_1 : l0_1.length ≤ c0_1) (hr0_2 : Kd.C (Kd.slice 51 k51) w A0_2 l0_2.length l0_2) (hc0_2 : l0_2.length ≤ c0_2) (h : stable_Fixed.f l0_0 l0_1 l0_2 a1 = some r) :
  Calls Try.prog 24 #[.agg #[.slice A0_0 l0_0.length c0_0, .slice A0_1 l0_1.length c0_1, .slice A0_2 l0_2.length c0_2], .int .i64 a1] w fun e w' => e = .returned (.bool r) ∧ Below w.heap.size w w' := by
 have hu32 := Try.underlying32; have HR0_0 := A_ hr0_0; have HC0_0 := A_ hc0_0; clear hr0_0 hc0_0; have HR0_1 := A_ hr0_1; have HC0_1 := A_ hc0_1; clear hr0_1 hc0_1; have HR0_2 := A_ hr0_2; have HC0_2 := A_ hc0_2; clear hr0_2 hc0_2; have HB := A_ (Below.refl w.heap.size w); unfold stable_Fixed.f at h; have H := h; clear h; by_cases c3 : a1 ≥ 0
 ·rw [if_pos c3] at H
  have c3b0 : decide (0 ≤ a1) = true := decide_eq_true c3; clear c3; by_cases c4 : a1 < (l0_0.length : Int)
  ·rw [if_pos c4] at H
   have c4b0 := decide_eq_true c4; clear c4; by_cases c5 : 0 ≤ a1
   ·rw [if_pos c5] at H
    have c5b0 := decide_eq_true c5; clear c5; obtain ⟨bq6, hbq6⟩ : ∃ b_ : Bool, b_ = (rdOf false l0_0 a1) := ⟨_, rfl⟩; (replace H : (if bq6 = true then (some true) else (if a1 < (l0_1.length : Int) then (some (decide ((rd l0_1 a1) ≥ 0))) else (some false))) = some r := by rw [← hbq6] at H; exact H); have Nbq6 := A_ hbq6; clear hbq6; by_cases c7 : bq6 = true
    ·subst c7
     rw [if_pos rfl] at H; obtain rfl := Option.some.inj H; go_enter Try.func24, Try.ntmps24; go_wp2_with (first | ((with_reducible refine gate_dst (N := 2) rfl ?_); (try (refine gate_guard (by rfl) ?_; dsimp only)); refine bx 2 (cs := #[.slice A0_0 l0_0.length c0_0, .slice A0_1 l0_1.length c0_1, .slice A0_2 l0_2.length c0_2]) (t := 32) (h := ?_); intro gb244 hg w8 hbox hb; have BK244 := A_ hbox; have GW244 : Aside0 (w.heap.size ≤ gb244) := bge hg; replace HB := bst hb; clear hb hbox hg; have hcz9 := bc3 BK244; have p245 : 0 ≤ (a1 : Int) := odt; have q245 : a1 < (l0_0.length : Int) := odt; obtain ⟨ad245, e245, hx245_0⟩ := Kd.at_bool HR0_0.out a1 p245 q245; (try rw [← Nbq6.out] at hx245_0); cases e245; replace hx245_0 := hbc HB hx245_0; replace p245 := eq_true p245; replace q245 := eq_true q245)); go_ret; exact ⟨eqd, bel⟩
    ·replace c7 := Bool.eq_false_iff.mpr c7
     subst c7; rw [if_neg (show ¬ (false = true) by decide)] at H; by_cases c10 : a1 < (l0_1.length : Int)
     ·rw [if_pos c10] at H
      have c10b0 := decide_eq_true c10; clear c10; obtain rfl := Option.some.inj H; go_enter Try.func24, Try.ntmps24; go_wp2_with (first | ((with_reducible refine gate_dst (N := 2) rfl ?_); (try (refine gate_guard (by rfl) ?_; dsimp only)); refine bx 2 (cs := #[.slice A0_0 l0_0.length c0_0, .slice A0_1 l0_1.length c0_1, .slice A0_2 l0_2.length c0_2]) (t := 32) (h := ?_); intro gb244 hg w11 hbox hb; have BK244 := A_ hbox; have GW244 : Aside0 (w.heap.size ≤ gb244) := bge hg; replace HB := bst hb; clear hb hbox hg; have hcz12 := bc3 BK244; have p245 : 0 ≤ (a1 : Int) := odt; have q245 : a1 < (l0_0.length : Int) := odt; obtain ⟨ad245, e245, hx245_0⟩ := Kd.at_bool HR0_0.out a1 p245 q245; (try rw [← Nbq6.out] at hx245_0); cases e245; replace hx245_0 := hbc HB hx245_0; replace p245 := eq_true p245; replace q245 := eq_true q245; have p246 : 0 ≤ (a1 : Int) := odt; have q246 : a1 < (l0_1.length : Int) := odt; obtain ⟨ad246, e246, hx246_0⟩ := Kd.at_int HR0_1.out a1 p246 q246; cases e246; replace hx246_0 := hbc HB hx246_0; replace p246 := eq_true p246; replace q246 := eq_true q246)); go_ret; exact ⟨eqd, bel⟩
     ·rw [if_neg c10] at H
      have c10b0 := decide_eq_false c10; clear c10; obtain rfl := Option.some.inj H; go_enter Try.func24, Try.ntmps24; go_wp2_with (first | ((with_reducible refine gate_dst (N := 2) rfl ?_); (try (refine gate_guard (by rfl) ?_; dsimp only)); refine bx 2 (cs := #[.slice A0_0 l0_0.length c0_0, .slice A0_1 l0_1.length c0_1, .slice A0_2 l0_2.length c0_2]) (t := 32) (h := ?_); intro gb244 hg w13 hbox hb; have BK244 := A_ hbox; have GW244 : Aside0 (w.heap.size ≤ gb244) := bge hg; replace HB := bst hb; clear hb hbox hg; have hcz14 := bc3 BK244; have p245 : 0 ≤ (a1 : Int) := odt; have q245 : a1 < (l0_0.length : Int) := odt; obtain ⟨ad245, e245, hx245_0⟩ := Kd.at_bool HR0_0.out a1 p245 q245; (try rw [← Nbq6.out] at hx245_0); cases e245; replace hx245_0 := hbc HB hx245_0; replace p245 := eq_true p245; replace q245 := eq_true q245)); go_ret; exact ⟨eqd, bel⟩
   ·rw [if_neg c5] at H
    exact absurd H (by simp)
  ·rw [if_neg c4] at H
   have c4b0 := decide_eq_false c4; clear c4; obtain rfl := Option.some.inj H; go_enter Try.func24, Try.ntmps24; go_wp2_with (first | ((with_reducible refine gate_dst (N := 2) rfl ?_); (try (refine gate_guard (by rfl) ?_; dsimp only)); refine bx 2 (cs := #[.slice A0_0 l0_0.length c0_0, .slice A0_1 l0_1.length c0_1, .slice A0_2 l0_2.length c0_2]) (t := 32) (h := ?_); intro gb244 hg w15 hbox hb; have BK244 := A_ hbox; have GW244 : Aside0 (w.heap.size ≤ gb244) := bge hg; replace HB := bst hb; clear hb hbox hg; have hcz16 := bc3 BK244)); go_ret; exact ⟨eqd, bel⟩
 ·rw [if_neg c3] at H
  have c3b0 : decide (0 ≤ a1) = false := decide_eq_false c3; clear c3; obtain rfl := Option.some.inj H; go_enter Try.func24, Try.ntmps24; go_wp2_with (first | ((with_reducible refine gate_dst (N := 2) rfl ?_); (try (refine gate_guard (by rfl) ?_; dsimp only)); refine bx 2 (cs := #[.slice A0_0 l0_0.length c0_0, .slice A0_1 l0_1.length c0_1, .slice A0_2 l0_2.length c0_2]) (t := 32) (h := ?_); intro gb244 hg w17 hbox hb; have BK244 := A_ hbox; have GW244 : Aside0 (w.heap.size ≤ gb244) := bge hg; replace HB := bst hb; clear hb hbox hg)); go_ret; exact ⟨eqd, bel⟩
def attr_Origin.f  : Option (Bool × Int × Int × Int) := some (true, 100, 0, 0)
set_option maxHeartbeats 8000000 in
set_option maxRecDepth 100000 in
theorem attr_Origin.calls  (r1 : Bool) (r2 : Int) (r3 : Int) (r4 : Int) (w : World) (h : attr_Origin.f  = some (r1, r2, r3, r4)) :
  Calls Try.prog 25 #[] w fun e w' => e = .returned (.agg #[.bool r1, .int .i64 r2, .int .i64 r3, .int .u8 r4]) ∧ Below w.heap.size w w' := by
 have hu41 := Try.underlying41; have HB := A_ (Below.refl w.heap.size w); unfold attr_Origin.f at h; have H := h; clear h; simp only [Option.some.injEq, Prod.mk.injEq] at H; obtain ⟨rfl, rfl, rfl, rfl⟩ := H; go_enter Try.func25, Try.ntmps25; go_wp2_with (first | ((with_reducible refine gate_dst (N := 0) rfl ?_); refine bx 0 (cs := #[.bool false, .int .i64 0, .int .i64 0, .int .u8 0]) (t := 41) (h := ?_); intro gb247 hg w1 hbox hb; have BK247 := A_ hbox; have GW247 : Aside0 (w.heap.size ≤ gb247) := bge hg; replace HB := bst hb; clear hb hbox hg; have hcz2 := bc4 BK247)); refine bodyPost_ret (results_cell_row rfl _ _ gb247 41 #[.bool true, .int .i64 100, .int .i64 0, .int .u8 0] (0, 0) _ rfl (bkp BK247) Try.underlying41 rfl (by kernel_rfl)) rfl ?_; exact ⟨eqd, bel⟩
def attr_Better.j0 : Nat → Bool → Bool → Int → Int → Int → Bool → Int → Int → Int → Option (Bool)
 | 0, _, _, _, _, _, _, _, _, _ => none
 | k + 1, x5, x249000, x249001, x249002, x249003, x250000, x250001, x250002, x250003 => if x5 = true then (if x249000 = true then (some (!x250000)) else (some false)) else (if x249001 = x250001 then (if x249002 = x250002 then (some (decide (x249003 < x250003))) else (some (decide (x249002 < x250002)))) else (some (decide (x249001 > x250001))))
def attr_Better.f (k : Nat) (a0_0 : Bool) (a0_1 : Int) (a0_2 : Int) (a0_3 : Int) (a1_0 : Bool) (a1_1 : Int) (a1_2 : Int) (a1_3 : Int) : Option (Bool) := if a0_0 = true then (attr_Better.j0 k (!a1_0) a0_0 a0_1 a0_2 a0_3 a1_0 a1_1 a1_2 a1_3) else (attr_Better.j0 k true a0_0 a0_1 a0_2 a0_3 a1_0 a1_1 a1_2 a1_3)
theorem attr_Better.mono_l : ∀ k, (∀ y0 y1 y2 y3 y4 y5 y6 y7 y8, LeO (attr_Better.j0 k y0 y1 y2 y3 y4 y5 y6 y7 y8) (attr_Better.j0 (k + 1) y0 y1 y2 y3 y4 y5 y6 y7 y8))
 | 0 => fun _ _ _ _ _ _ _ _ _ r h => by simp [attr_Better.j0] at h
 | k + 1 => by
  have ih0 := attr_Better.mono_l k
  ·intro y0 y1 y2 y3 y4 y5 y6 y7 y8
   unfold attr_Better.j0; repeat' first
   | (with_reducible exact ih0 _ _ _ _ _ _ _ _ _)
   | (with_reducible exact LeO.refl _)
   | (with_reducible exact LeO.none _)
   | (with_reducible refine LeO.ite ?_ ?_)
   | (with_reducible refine LeO.bind ?_ (fun _ => ?_))
   | exact ih0 _ _ _ _ _ _ _ _ _
   | exact LeO.none _
   | refine LeO.ite ?_ ?_
   | refine LeO.bind ?_ (fun _ => ?_)
theorem attr_Better.mono : ∀ a0 a1 a2 a3 a4 a5 a6 a7 k, LeO (attr_Better.f k a0 a1 a2 a3 a4 a5 a6 a7) (attr_Better.f (k + 1) a0 a1 a2 a3 a4 a5 a6 a7) := by
 intro a0 a1 a2 a3 a4 a5 a6 a7 k; have ih0 := attr_Better.mono_l k; unfold attr_Better.f
 repeat' first
   | (with_reducible exact ih0 _ _ _ _ _ _ _ _ _)
   | (with_reducible exact LeO.refl _)
   | (with_reducible exact LeO.none _)
   | (with_reducible refine LeO.ite ?_ ?_)
   | (with_reducible refine LeO.bind ?_ (fun _ => ?_))
   | exact ih0 _ _ _ _ _ _ _ _ _
   | exact LeO.none _
   | refine LeO.ite ?_ ?_
   | refine LeO.bind ?_ (fun _ => ?_)
set_option maxHeartbeats 8000000 in
set_option maxRecDepth 100000 in
theorem attr_Better.calls (k : Nat) (a0_0 : Bool) (a0_1 : Int) (a0_2 : Int) (a0_3 : Int) (a1_0 : Bool) (a1_1 : Int) (a1_2 : Int) (a1_3 : Int) (r : Bool) (w : World) (h : attr_Better.f k a0_0 a0_1 a0_2 a0_3 a1_0 a1_1 a1_2 a1_3 = some r) :
  Calls Try.prog 43 #[.agg #[.bool a0_0, .int .i64 a0_1, .int .i64 a0_2, .int .u8 a0_3], .agg #[.bool a1_0, .int .i64 a1_1, .int .i64 a1_2, .int .u8 a1_3]] w fun e w' => e = .returned (.bool r) ∧ Below w.heap.size w w' := by
 have hu41 := Try.underlying41; have HB := A_ (Below.refl w.heap.size w); unfold attr_Better.f at h; have H := h; clear h; have HC3 := A_ H; clear H; go_enter Try.func43, Try.ntmps43; go_upto_region 1 with (first | ((with_reducible refine gate_dst (N := 2) rfl ?_); refine bx 2 (cs := #[.bool a0_0, .int .i64 a0_1, .int .i64 a0_2, .int .u8 a0_3]) (t := 41) (h := ?_); intro gb248 hg w4 hbox hb; have BK248 := A_ hbox; have GW248 : Aside0 (w.heap.size ≤ gb248) := bge hg; replace HB := bst hb; clear hb hbox hg) | ((with_reducible refine gate_dst (N := 3) rfl ?_); refine bx 3 (cs := #[.bool a1_0, .int .i64 a1_1, .int .i64 a1_2, .int .u8 a1_3]) (t := 41) (h := ?_); intro gb249 hg w5 hbox hb; have BK249 := A_ hbox; have GW249 : Aside0 (w.heap.size ≤ gb249) := bge hg; have NB248_249 := bne BK248 hg; have NB249_248 := bnf BK248 hg; replace BK248 := bkb BK248 hb; replace HB := bst hb; clear hb hbox hg)); (try simp only [Act.put, List.setIfInBounds_toArray, List.set_cons_zero, List.set_cons_succ]); go_cut [5] (fun v5 wc => ∃ (kq : Nat) (x5_2 : Bool), v5 = .bool x5_2 ∧ Aside0 (attr_Better.j0 kq x5_2 a0_0 a0_1 a0_2 a0_3 a1_0 a1_1 a1_2 a1_3 = some r) ∧ Aside0 (kq ≤ k) ∧ Aside0 (wc.heap[gb248]? = some (.cells #[.bool a0_0, .int .i64 a0_1, .int .i64 a0_2, .int .u8 a0_3] 41 (0, 0))) ∧ Aside0 (wc.heap[gb249]? = some (.cells #[.bool a1_0, .int .i64 a1_1, .int .i64 a1_2, .int .u8 a1_3] 41 (0, 0))) ∧ Aside0 (Below w.heap.size w wc))
 case first =>
  have H := HC3.out; clear HC3; by_cases c6 : a0_0 = true
  ·subst c6
   rw [if_pos rfl] at H; have H' := A_ H; clear H; have hnb7 := NB248_249.out; have hnc7 := NB249_248.out; have hcz8 := bc4 BK248; have hcz9 := bc4 BK249; go_wp2; go_meet
   case rel => exact ⟨_, (!a1_0), eqs, H', ⟨by first | omega | exact Nat.le_refl _⟩, ⟨bkq BK248⟩, ⟨bkq BK249⟩, ⟨bel⟩⟩
  ·replace c6 := Bool.eq_false_iff.mpr c6
   subst c6; rw [if_neg (show ¬ (false = true) by decide)] at H; have H' := A_ H; clear H; have hnb10 := NB248_249.out; have hnc10 := NB249_248.out; have hcz11 := bc4 BK248; go_wp2; go_meet
   case rel => exact ⟨_, (true), eqs, H', ⟨by first | omega | exact Nat.le_refl _⟩, ⟨bkq BK248⟩, ⟨bkq BK249⟩, ⟨bel⟩⟩
 case rest =>
  clear HC3; (try clear c1); (try clear p2); (try clear c4); (try clear c6); (try clear c7); (try clear c10); (try clear hcz11); (try clear hcz8); (try clear hcz9); obtain ⟨kq, x5_2, rfl, HA, HJ2, BK248, BK249, HB⟩ := hcut
  cases kq with
  | zero => exact absurd HA.out (by simp [attr_Better.j0])
  | succ kj2 =>
   have H := HA.out; clear HA; simp only [attr_Better.j0] at H; by_cases c12 : x5_2 = true
   ·subst c12
    rw [if_pos rfl] at H; by_cases c13 : a0_0 = true
    ·subst c13
     rw [if_pos rfl] at H; obtain rfl := Option.some.inj H; have hnb14 := NB248_249.out; have hnc14 := NB249_248.out; have hcz15 := bc4 BK248; have hcz16 := bc4 BK249; go_wp2; go_ret; exact ⟨eqd, bel⟩
    ·replace c13 := Bool.eq_false_iff.mpr c13
     subst c13; rw [if_neg (show ¬ (false = true) by decide)] at H; obtain rfl := Option.some.inj H; have hnb17 := NB248_249.out; have hnc17 := NB249_248.out; have hcz18 := bc4 BK248; go_wp2; go_ret; exact ⟨eqd, bel⟩
   ·replace c12 := Bool.eq_false_iff.mpr c12
    subst c12; rw [if_neg (show ¬ (false = true) by decide)] at H; by_cases c19 : a0_1 = a1_1
    ·rw [if_pos c19] at H
     have c19b0 : (a0_1 == a1_1) = true := beq_iff_eq.mpr c19; have c19b1 : (a0_1 != a1_1) = false := bne_eq_false_iff_eq.mpr c19; clear c19; by_cases c20 : a0_2 = a1_2
     ·rw [if_pos c20] at H
      have c20b0 : (a0_2 == a1_2) = true := beq_iff_eq.mpr c20; have c20b1 : (a0_2 != a1_2) = false := bne_eq_false_iff_eq.mpr c20; clear c20; obtain rfl := Option.some.inj H; have hnb21 := NB248_249.out; have hnc21 := NB249_248.out; have hcz22 := bc4 BK248; have hcz23 := bc4 BK249; go_wp2; go_ret; exact ⟨eqd, bel⟩
     ·rw [if_neg c20] at H
      have c20b0 : (a0_2 == a1_2) = false := beq_eq_false_iff_ne.mpr c20; have c20b1 : (a0_2 != a1_2) = true := bne_iff_ne.mpr c20; obtain rfl := Option.some.inj H; have hnb24 := NB248_249.out; have hnc24 := NB249_248.out; have hcz25 := bc4 BK248; have hcz26 := bc4 BK249; go_wp2; go_ret; exact ⟨eqd, bel⟩
    ·rw [if_neg c19] at H
     have c19b0 : (a0_1 == a1_1) = false := beq_eq_false_iff_ne.mpr c19; have c19b1 : (a0_1 != a1_1) = true := bne_iff_ne.mpr c19; obtain rfl := Option.some.inj H; have hnb27 := NB248_249.out; have hnc27 := NB249_248.out; have hcz28 := bc4 BK248; have hcz29 := bc4 BK249; go_wp2; go_ret; exact ⟨eqd, bel⟩
end Go.Proofs.Ytcagkdgpoijkoaa.PLm
end
