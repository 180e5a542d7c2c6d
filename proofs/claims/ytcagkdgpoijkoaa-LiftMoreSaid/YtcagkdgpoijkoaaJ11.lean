/- Texts of this work, joined: PLmx23, PLmx24. -/
import Derived.Test.YtcagkdgpoijkoaaShort
import Derived.Test.YtcagkdgpoijkoaaSh2
import Derived.Test.YtcagkdgpoijkoaaPLmx0
import Derived.Test.YtcagkdgpoijkoaaJ10
import Derived.Test.YtcagkdgpoijkoaaPLmx19
section
namespace Go.Proofs.Ytcagkdgpoijkoaa.PLm
open Go.RowKit Go.Proofs.Ytcagkdgpoijkoaa.Short Go.Proofs.YtcagkdgpoijkoaaW.PrintWords Go.Proofs.YtcagkdgpoijkoaaW.PrintLast Go.Proofs.YtcagkdgpoijkoaaW.PrintMore
attribute [local go_sem] max2_int min2_int max_two min_two max_three min_three max_four min_four
set_option linter.unusedVariables false
set_option linter.unusedSimpArgs false
def attr_Best.l0 : Nat → List (S41) → Int → Int → Bool → Int → Int → Int → Option (Bool × Int × Int × Int)
 | 0, _, _, _, _, _, _, _ => none
 | k + 1, x6, x7, x8, x252000, x252001, x252002, x252003 => if x8 < x7 then (if 0 ≤ x8 then (if x8 < (x6.length : Int) then ((attr_Better.f k ((rd_T41 x6 x8).f0) ((rd_T41 x6 x8).f1) ((rd_T41 x6 x8).f2) ((rd_T41 x6 x8).f3) x252000 x252001 x252002 x252003).bind fun t254 => (if t254 = true then (attr_Best.l0 k x6 x7 (wrap64 (x8 + 1)) ((rd_T41 x6 x8).f0) ((rd_T41 x6 x8).f1) ((rd_T41 x6 x8).f2) ((rd_T41 x6 x8).f3)) else (attr_Best.l0 k x6 x7 (wrap64 (x8 + 1)) x252000 x252001 x252002 x252003))) else (none)) else (none)) else (some (x252000, x252001, x252002, x252003))
def attr_Best.f (k : Nat) (l0 : List (S41)) : Option (Bool × Int × Int × Int) := attr_Best.l0 k l0 (l0.length : Int) 0 false 0 0 0
theorem attr_Best.mono_l : ∀ k, (∀ y0 y1 y2 y3 y4 y5 y6, LeO (attr_Best.l0 k y0 y1 y2 y3 y4 y5 y6) (attr_Best.l0 (k + 1) y0 y1 y2 y3 y4 y5 y6))
 | 0 => fun _ _ _ _ _ _ _ r h => by simp [attr_Best.l0] at h
 | k + 1 => by
  have ih0 := attr_Best.mono_l k
  ·intro y0 y1 y2 y3 y4 y5 y6
   unfold attr_Best.l0; repeat' first
   | (with_reducible exact ih0 _ _ _ _ _ _ _)
   | (with_reducible exact attr_Better.mono _ _ _ _ _ _ _ _ _)
   | (with_reducible exact LeO.refl _)
   | (with_reducible exact LeO.none _)
   | (with_reducible refine LeO.ite ?_ ?_)
   | (with_reducible refine LeO.bind ?_ (fun _ => ?_))
   | exact ih0 _ _ _ _ _ _ _
   | exact attr_Better.mono _ _ _ _ _ _ _ _ _
   | exact LeO.none _
   | refine LeO.ite ?_ ?_
   | refine LeO.bind ?_ (fun _ => ?_)
theorem attr_Best.mono : ∀ a0 k, LeO (attr_Best.f k a0) (attr_Best.f (k + 1) a0) := by
 intro a0 k; have ih0 := attr_Best.mono_l k; unfold attr_Best.f
 repeat' first
   | (with_reducible exact ih0 _ _ _ _ _ _ _)
   | (with_reducible exact attr_Better.mono _ _ _ _ _ _ _ _ _)
   | (with_reducible exact LeO.refl _)
   | (with_reducible exact LeO.none _)
   | (with_reducible refine LeO.ite ?_ ?_)
   | (with_reducible refine LeO.bind ?_ (fun _ => ?_))
   | exact ih0 _ _ _ _ _ _ _
   | exact attr_Better.mono _ _ _ _ _ _ _ _ _
   | exact LeO.none _
   | refine LeO.ite ?_ ?_
   | refine LeO.bind ?_ (fun _ => ?_)
set_option maxHeartbeats 8000000 in
set_option maxRecDepth 100000 in
theorem attr_Best.calls (k : Nat) (A0 : Option Addr) (c0 : Nat) (l0 : List (S41)) (r1 : Bool) (r2 : Int) (r3 : Int) (r4 : Int) (w : World) (hr0 : Kd.C k41 w A0 l0.length l0) (hc0 : l0.length ≤ c0) (h : attr_Best.f k l0 = some (r1, r2, r3, r4)) :
  Calls Try.prog 26 #[.slice A0 l0.length c0] w fun e w' => e = .returned (.agg #[.bool r1, .int .i64 r2, .int .i64 r3, .int .u8 r4]) ∧ Below w.heap.size w w' := by
 have hu41 := Try.underlying41; have HR0 := A_ hr0; have HC0 := A_ hc0; clear hr0 hc0; have HB := A_ (Below.refl w.heap.size w); unfold attr_Best.f at h; have H := h; clear h; have H' := A_ H; clear H; go_enter Try.func26, Try.ntmps26; go_wp2_with (first | ((with_reducible refine gate_dst (N := 2) rfl ?_); refine bx 2 (cs := #[.bool false, .int .i64 0, .int .i64 0, .int .u8 0]) (t := 41) (h := ?_); intro gb250 hg w2 hbox hb; have BK250 := A_ hbox; have GW250 : Aside0 (w.heap.size ≤ gb250) := bge hg; replace HB := bst hb; clear hb hbox hg) | ((with_reducible refine gate_dst (N := 3) rfl ?_); refine bx 3 (cs := #[.bool false, .int .i64 0, .int .i64 0, .int .u8 0]) (t := 41) (h := ?_); intro gb251 hg w3 hbox hb; have BK251 := A_ hbox; have GW251 : Aside0 (w.heap.size ≤ gb251) := bge hg; have NB250_251 := bne BK250 hg; have NB251_250 := bnf BK250 hg; replace BK250 := bkb BK250 hb; replace HB := bst hb; clear hb hbox hg)); go_loopg [8] k (fun kq v8 w' => ∃ (x8_1 : Int) (x252000_1 : Bool) (x252001_1 : Int) (x252002_1 : Int) (x252003_1 : Int), v8 = .int .i64 x8_1 ∧ Aside0 (attr_Best.l0 kq l0 (l0.length : Int) x8_1 x252000_1 x252001_1 x252002_1 x252003_1 = some (r1, r2, r3, r4)) ∧ Aside0 (kq ≤ k) ∧ Aside0 (w'.heap[gb250]? = some (.cells #[.bool false, .int .i64 0, .int .i64 0, .int .u8 0] 41 (0, 0))) ∧ Aside0 (w'.heap[gb251]? = some (.cells #[.bool x252000_1, .int .i64 x252001_1, .int .i64 x252002_1, .int .u8 x252003_1] 41 (0, 0))) ∧ Aside0 (Below w.heap.size w w'))
 case atStart => exact ⟨(0), (false), (0), (0), (0), eqs, H', ⟨Nat.le_refl _⟩, ⟨bkq BK250⟩, ⟨bkq BK251⟩, ⟨bel⟩⟩
 case round =>
  clear H'; (try clear c2); (try clear p2); obtain ⟨x8_1, x252000_1, x252001_1, x252002_1, x252003_1, rfl, HA, HK1, BK250, BK251, HB⟩ := hrel
  cases gk with
  | zero => exact absurd HA.out (by simp [attr_Best.l0])
  | succ k1 =>
   have H := HA.out; clear HA; simp only [attr_Best.l0] at H; by_cases c4 : x8_1 < (l0.length : Int)
   ·rw [if_pos c4] at H
    have c4b0 := decide_eq_true c4; clear c4; by_cases c5 : 0 ≤ x8_1
    ·rw [if_pos c5] at H
     have c5b0 := decide_eq_true c5; clear c5; by_cases c6 : x8_1 < (l0.length : Int)
     ·rw [if_pos c6] at H
      have c6b0 := decide_eq_true c6; clear c6; replace H := Option.bind_eq_some_iff.mp H; obtain ⟨t254, A70, H⟩ := H; have A7 := A_ A70; clear A70; by_cases c8 : t254 = true
      ·subst c8
       rw [if_pos rfl] at H; have H' := A_ H; clear H; have p252 : 0 ≤ (x8_1 : Int) := odt; have q252 : x8_1 < (l0.length : Int) := odt; obtain ⟨ad252, e252, hx252_0, hx252_1, hx252_2, hx252_3⟩ := at_T41 HR0.out x8_1 p252 q252; cases e252; replace hx252_0 := hbc HB hx252_0; replace hx252_1 := hbc HB hx252_1; replace hx252_2 := hbc HB hx252_2; replace hx252_3 := hbc HB hx252_3; replace p252 := eq_true p252; replace q252 := eq_true q252; go_wp2_with (first | ((with_reducible refine gate_dst (N := 5) rfl ?_); refine bx 5 (cs := #[.bool false, .int .i64 0, .int .i64 0, .int .u8 0]) (t := 41) (h := ?_); intro gb253 hg w9 hbox hb; have BK253 := A_ hbox; have GW253 : Aside0 (w.heap.size ≤ gb253) := bge hg; have NB250_253 := bne BK250 hg; have NB253_250 := bnf BK250 hg; have NB251_253 := bne BK251 hg; have NB253_251 := bnf BK251 hg; replace BK250 := bkb BK250 hb; replace BK251 := bkb BK251 hb; replace HB := bst hb; clear hb hbox hg; have hnb10 := NB253_250.out; have hnc10 := NB250_253.out; have hnb11 := NB253_251.out; have hnc11 := NB251_253.out; have hcz12 := bc4 BK253; have hnb13 := NB251_250.out; have hnc13 := NB250_251.out; have hcz14 := bc4 BK251) | ((with_reducible refine gate_dst (N := 14) rfl ?_); refine gl (some 14) Try.func43 #[.agg #[.bool ((rd_T41 l0 x8_1).f0), .int .i64 ((rd_T41 l0 x8_1).f1), .int .i64 ((rd_T41 l0 x8_1).f2), .int .u8 ((rd_T41 l0 x8_1).f3)], .agg #[.bool x252000_1, .int .i64 x252001_1, .int .i64 x252002_1, .int .u8 x252003_1]] ?_; (with_reducible refine (attr_Better.calls k1 ((rd_T41 l0 x8_1).f0) ((rd_T41 l0 x8_1).f1) ((rd_T41 l0 x8_1).f2) ((rd_T41 l0 x8_1).f3) x252000_1 x252001_1 x252002_1 x252003_1 true _ A7.out).mono ?_); rintro e w15 ⟨rfl, hb⟩; refine ⟨_, rfl, ?_⟩; replace BK250 := bkb BK250 hb; replace BK251 := bkb BK251 hb; replace BK253 := A_ (blk_below (g := gb253) (o := .cells #[.bool ((rd_T41 l0 x8_1).f0), .int .i64 ((rd_T41 l0 x8_1).f1), .int .i64 ((rd_T41 l0 x8_1).f2), .int .u8 ((rd_T41 l0 x8_1).f3)] 41 (0, 0)) (bkp BK253) hb); replace HB := bst hb; (try clear hb); have hcz16 := bc4 BK253; have hcz17 := bc4 BK251)); go_roundg k1
       case measure => have := HK1.out; omega
       case rel => exact ⟨(wrap64 (x8_1 + 1)), ((rd_T41 l0 x8_1).f0), ((rd_T41 l0 x8_1).f1), ((rd_T41 l0 x8_1).f2), ((rd_T41 l0 x8_1).f3), eqs, H', ⟨by have := HK1.out; omega⟩, ⟨bkq BK250⟩, ⟨bkp BK251⟩, ⟨bel⟩⟩
      ·replace c8 := Bool.eq_false_iff.mpr c8
       subst c8; rw [if_neg (show ¬ (false = true) by decide)] at H; have H' := A_ H; clear H; have p252 : 0 ≤ (x8_1 : Int) := odt; have q252 : x8_1 < (l0.length : Int) := odt; obtain ⟨ad252, e252, hx252_0, hx252_1, hx252_2, hx252_3⟩ := at_T41 HR0.out x8_1 p252 q252; cases e252; replace hx252_0 := hbc HB hx252_0; replace hx252_1 := hbc HB hx252_1; replace hx252_2 := hbc HB hx252_2; replace hx252_3 := hbc HB hx252_3; replace p252 := eq_true p252; replace q252 := eq_true q252; go_wp2_with (first | ((with_reducible refine gate_dst (N := 5) rfl ?_); refine bx 5 (cs := #[.bool false, .int .i64 0, .int .i64 0, .int .u8 0]) (t := 41) (h := ?_); intro gb253 hg w18 hbox hb; have BK253 := A_ hbox; have GW253 : Aside0 (w.heap.size ≤ gb253) := bge hg; have NB250_253 := bne BK250 hg; have NB253_250 := bnf BK250 hg; have NB251_253 := bne BK251 hg; have NB253_251 := bnf BK251 hg; replace BK250 := bkb BK250 hb; replace BK251 := bkb BK251 hb; replace HB := bst hb; clear hb hbox hg; have hnb19 := NB253_250.out; have hnc19 := NB250_253.out; have hnb20 := NB253_251.out; have hnc20 := NB251_253.out; have hcz21 := bc4 BK253; have hnb22 := NB251_250.out; have hnc22 := NB250_251.out; have hcz23 := bc4 BK251) | ((with_reducible refine gate_dst (N := 14) rfl ?_); refine gl (some 14) Try.func43 #[.agg #[.bool ((rd_T41 l0 x8_1).f0), .int .i64 ((rd_T41 l0 x8_1).f1), .int .i64 ((rd_T41 l0 x8_1).f2), .int .u8 ((rd_T41 l0 x8_1).f3)], .agg #[.bool x252000_1, .int .i64 x252001_1, .int .i64 x252002_1, .int .u8 x252003_1]] ?_; (with_reducible refine (attr_Better.calls k1 ((rd_T41 l0 x8_1).f0) ((rd_T41 l0 x8_1).f1) ((rd_T41 l0 x8_1).f2) ((rd_T41 l0 x8_1).f3) x252000_1 x252001_1 x252002_1 x252003_1 false _ A7.out).mono ?_); rintro e w24 ⟨rfl, hb⟩; refine ⟨_, rfl, ?_⟩; replace BK250 := bkb BK250 hb; replace BK251 := bkb BK251 hb; replace BK253 := A_ (blk_below (g := gb253) (o := .cells #[.bool ((rd_T41 l0 x8_1).f0), .int .i64 ((rd_T41 l0 x8_1).f1), .int .i64 ((rd_T41 l0 x8_1).f2), .int .u8 ((rd_T41 l0 x8_1).f3)] 41 (0, 0)) (bkp BK253) hb); replace HB := bst hb; (try clear hb))); go_roundg k1
       case measure => have := HK1.out; omega
       case rel => exact ⟨(wrap64 (x8_1 + 1)), (x252000_1), (x252001_1), (x252002_1), (x252003_1), eqs, H', ⟨by have := HK1.out; omega⟩, ⟨bkq BK250⟩, ⟨bkq BK251⟩, ⟨bel⟩⟩
     ·rw [if_neg c6] at H
      exact absurd H (by simp)
    ·rw [if_neg c5] at H
     exact absurd H (by simp)
   ·rw [if_neg c4] at H
    have c4b0 := decide_eq_false c4; clear c4; simp only [Option.some.injEq, Prod.mk.injEq] at H; obtain ⟨rfl, rfl, rfl, rfl⟩ := H; have hnb25 := NB251_250.out; have hnc25 := NB250_251.out; have hcz26 := bc4 BK251; have hcz27 := bc4 BK250; go_wp2; refine bodyPost_ret (results_cell_row rfl _ _ gb250 41 #[.bool x252000_1, .int .i64 x252001_1, .int .i64 x252002_1, .int .u8 x252003_1] (0, 0) _ rfl (bkp BK250) Try.underlying41 rfl (by kernel_rfl)) rfl ?_; exact ⟨eqd, bel⟩
def stable_Choice.f (k : Nat) (l0_0 : List Bool) (l0_1 : List Int) (l0_2 : List (List (S51))) (l1 : List (S41)) (a2 : Int) : Option (Bool × Int × Int × Int) := (stable_Fixed.f l0_0 l0_1 l0_2 a2).bind fun t257 => (if t257 = true then ((attr_Origin.f).bind fun bt258 => (some (bt258.1, bt258.2.1, bt258.2.2.1, bt258.2.2.2))) else ((stable_Offers.f k l0_0 l0_1 l0_2 l1 a2).bind fun t262 => ((attr_Best.f k t262).bind fun bt265 => (some (bt265.1, bt265.2.1, bt265.2.2.1, bt265.2.2.2)))))
theorem stable_Choice.mono : ∀ a0 a1 a2 a3 a4 k, LeO (stable_Choice.f k a0 a1 a2 a3 a4) (stable_Choice.f (k + 1) a0 a1 a2 a3 a4) := by
 intro a0 a1 a2 a3 a4 k; unfold stable_Choice.f
 repeat' first
   | (with_reducible exact attr_Best.mono _ _)
   | (with_reducible exact stable_Offers.mono _ _ _ _ _ _)
   | (with_reducible exact LeO.refl _)
   | (with_reducible exact LeO.none _)
   | (with_reducible refine LeO.ite ?_ ?_)
   | (with_reducible refine LeO.bind ?_ (fun _ => ?_))
   | exact attr_Best.mono _ _
   | exact stable_Offers.mono _ _ _ _ _ _
   | exact LeO.none _
   | refine LeO.ite ?_ ?_
   | refine LeO.bind ?_ (fun _ => ?_)
set_option maxHeartbeats 8000000 in
set_option maxRecDepth 100000 in
theorem stable_Choice.calls (k : Nat) (A0_0 : Option Addr) (c0_0 : Nat) (l0_0 : List Bool) (A0_1 : Option Addr) (c0_1 : Nat) (l0_1 : List Int) (A0_2 : Option Addr) (c0_2 : Nat) (l0_2 : List (List (S51))) (A1 : Option Addr) (c1 : Nat) (l1 : List (S41)) (a2 : Int) (r1 : Bool) (r2 : Int) (r3 : Int) (r4 : Int) (w : World) (hr0_0 : Kd.C Kd.bool w A0_0 l0_0.length l0_0) (hc0_0 : l0_0.length ≤ c0_0) (hr0_1 : Kd.C (Kd.int .i64) w A0_1 l0_1.length l0_1) (hc0_1 : l0_1.length ≤ c0_1) (hr0_2 : Kd.C (Kd.slice 51 k51) w A0_2 l0_2.length l0_2) (hc0_2 : l0_2.length ≤ c0_2) (hr1 : Kd.C k41 w A1 l1.length l1) (hc1 : l1.length ≤ c1) (h : stable_Choice.f k l0_0 l0_1 l0_2 l1 a2 = some (r1, r2, r3, r4)) :
  Calls Try.prog 10 #[.agg #[.slice A0_0 l0_0.length c0_0, .slice A0_1 l0_1.length c0_1, .slice A0_2 l0_2.length c0_2], .slice A1 l1.length c1, .int .i64 a2] w fun e w' => e = .returned (.agg #[.bool r1, .int .i64 r2, .int .i64 r3, .int .u8 r4]) ∧ Below w.heap.size w w' := by
 have hu32 := Try.underlying32; have hu41 := Try.underlying41; have HR0_0 := A_ hr0_0; have HC0_0 := A_ hc0_0; clear hr0_0 hc0_0; have HR0_1 := A_ hr0_1; have HC0_1 := A_ hc0_1; clear hr0_1 hc0_1; have HR0_2 := A_ hr0_2; have HC0_2 := A_ hc0_2; clear hr0_2 hc0_2; have HR1 := A_ hr1; have HC1 := A_ hc1; clear hr1 hc1; have HB := A_ (Below.refl w.heap.size w); unfold stable_Choice.f at h; have H := h; clear h; replace H := Option.bind_eq_some_iff.mp H; obtain ⟨t257, A40, H⟩ := H; have A4 := A_ A40; clear A40; by_cases c5 : t257 = true
 ·subst c5
  rw [if_pos rfl] at H; replace H := Option.bind_eq_some_iff.mp H; obtain ⟨⟨t258, t259, t260, t261⟩, A60, H⟩ := H; dsimp only at H; have A6 := A_ A60; clear A60; simp only [Option.some.injEq, Prod.mk.injEq] at H; obtain ⟨rfl, rfl, rfl, rfl⟩ := H; go_enter Try.func10, Try.ntmps10; go_wp2_with (first | ((with_reducible refine gate_dst (N := 3) rfl ?_); refine bx 3 (cs := #[.slice A0_0 l0_0.length c0_0, .slice A0_1 l0_1.length c0_1, .slice A0_2 l0_2.length c0_2]) (t := 32) (h := ?_); intro gb255 hg w7 hbox hb; have BK255 := A_ hbox; have GW255 : Aside0 (w.heap.size ≤ gb255) := bge hg; replace HB := bst hb; clear hb hbox hg) | ((with_reducible refine gate_dst (N := 6) rfl ?_); refine bx 6 (cs := #[.bool false, .int .i64 0, .int .i64 0, .int .u8 0]) (t := 41) (h := ?_); intro gb256 hg w8 hbox hb; have BK256 := A_ hbox; have GW256 : Aside0 (w.heap.size ≤ gb256) := bge hg; have NB255_256 := bne BK255 hg; have NB256_255 := bnf BK255 hg; replace BK255 := bkb BK255 hb; replace HB := bst hb; clear hb hbox hg; have hnb9 := NB255_256.out; have hnc9 := NB256_255.out; have hcz10 := bc3 BK255) | ((with_reducible refine gate_dst (N := 9) rfl ?_); refine gl (some 9) Try.func24 #[.agg #[.slice A0_0 l0_0.length c0_0, .slice A0_1 l0_1.length c0_1, .slice A0_2 l0_2.length c0_2], .int .i64 a2] ?_; (with_reducible refine (stable_Fixed.calls _ _ l0_0 _ _ l0_1 _ _ l0_2 a2 true _ ?side1 ?side2 ?side3 ?side4 ?side5 ?side6 A4.out).mono ?_); (case side1 => exact kcb HR0_0); (case side2 => exact HC0_0.out); (case side3 => exact kcb HR0_1); (case side4 => exact HC0_1.out); (case side5 => exact kcb HR0_2); (case side6 => exact HC0_2.out); rintro e w11 ⟨rfl, hb⟩; refine ⟨_, rfl, ?_⟩; replace BK255 := bkb BK255 hb; replace BK256 := bkb BK256 hb; replace HB := bst hb; (try clear hb)) | ((with_reducible refine gate_dst (N := 10) rfl ?_); refine gl (some 10) Try.func25 #[] ?_; (with_reducible refine (attr_Origin.calls  t258 t259 t260 t261 _ A6.out).mono ?_); rintro e w12 ⟨rfl, hb⟩; refine ⟨_, rfl, ?_⟩; replace BK255 := bkb BK255 hb; replace BK256 := bkb BK256 hb; replace HB := bst hb; (try clear hb); have hcz13 := bc4 BK256)); refine bodyPost_ret (results_cell_row rfl _ _ gb256 41 #[.bool t258, .int .i64 t259, .int .i64 t260, .int .u8 t261] (0, 0) _ rfl (bkp BK256) Try.underlying41 rfl (by kernel_rfl)) rfl ?_; exact ⟨eqd, bel⟩
 ·replace c5 := Bool.eq_false_iff.mpr c5
  subst c5; rw [if_neg (show ¬ (false = true) by decide)] at H; replace H := Option.bind_eq_some_iff.mp H; obtain ⟨t262, A140, H⟩ := H; have A14 := A_ A140; clear A140; replace H := Option.bind_eq_some_iff.mp H; obtain ⟨⟨t265, t266, t267, t268⟩, A150, H⟩ := H; dsimp only at H; have A15 := A_ A150; clear A150; simp only [Option.some.injEq, Prod.mk.injEq] at H; obtain ⟨rfl, rfl, rfl, rfl⟩ := H; go_enter Try.func10, Try.ntmps10
  go_wp2_with (first | ((with_reducible refine gate_dst (N := 3) rfl ?_); refine bx 3 (cs := #[.slice A0_0 l0_0.length c0_0, .slice A0_1 l0_1.length c0_1, .slice A0_2 l0_2.length c0_2]) (t := 32) (h := ?_); intro gb255 hg w16 hbox hb; have BK255 := A_ hbox; have GW255 : Aside0 (w.heap.size ≤ gb255) := bge hg; replace HB := bst hb; clear hb hbox hg) | ((with_reducible refine gate_dst (N := 6) rfl ?_); refine bx 6 (cs := #[.bool false, .int .i64 0, .int .i64 0, .int .u8 0]) (t := 41) (h := ?_); intro gb256 hg w17 hbox hb; have BK256 := A_ hbox; have GW256 : Aside0 (w.heap.size ≤ gb256) := bge hg; have NB255_256 := bne BK255 hg; have NB256_255 := bnf BK255 hg; replace BK255 := bkb BK255 hb; replace HB := bst hb; clear hb hbox hg; have hnb18 := NB255_256.out; have hnc18 := NB256_255.out; have hcz19 := bc3 BK255) | ((with_reducible refine gate_dst (N := 9) rfl ?_); refine gl (some 9) Try.func24 #[.agg #[.slice A0_0 l0_0.length c0_0, .slice A0_1 l0_1.length c0_1, .slice A0_2 l0_2.length c0_2], .int .i64 a2] ?_; (with_reducible refine (stable_Fixed.calls _ _ l0_0 _ _ l0_1 _ _ l0_2 a2 false _ ?side1 ?side2 ?side3 ?side4 ?side5 ?side6 A4.out).mono ?_); (case side1 => exact kcb HR0_0); (case side2 => exact HC0_0.out); (case side3 => exact kcb HR0_1); (case side4 => exact HC0_1.out); (case side5 => exact kcb HR0_2); (case side6 => exact HC0_2.out); rintro e w20 ⟨rfl, hb⟩; refine ⟨_, rfl, ?_⟩; replace BK255 := bkb BK255 hb; replace BK256 := bkb BK256 hb; replace HB := bst hb; (try clear hb); have hcz21 := bc3 BK255) | ((with_reducible refine gate_dst (N := 14) rfl ?_); refine gl (some 14) Try.func12 #[.agg #[.slice A0_0 l0_0.length c0_0, .slice A0_1 l0_1.length c0_1, .slice A0_2 l0_2.length c0_2], .slice A1 l1.length c1, .int .i64 a2] ?_; (with_reducible refine (stable_Offers.calls k _ _ l0_0 _ _ l0_1 _ _ l0_2 _ _ l1 a2 t262 _ ?side1 ?side2 ?side3 ?side4 ?side5 ?side6 ?side7 ?side8 A14.out).mono ?_); (case side1 => exact kcb HR0_0); (case side2 => exact HC0_0.out); (case side3 => exact kcb HR0_1); (case side4 => exact HC0_1.out); (case side5 => exact kcb HR0_2); (case side6 => exact HC0_2.out); (case side7 => exact kcb HR1); (case side8 => exact HC1.out); rintro e w22 ⟨v263, rfl, ho0, hb⟩; refine ⟨_, rfl, ?_⟩; have HO264 := A_ (Kd.R_lower (Kd.R_newB ho0 (g := gb256) (o := .cells #[.bool false, .int .i64 0, .int .i64 0, .int .u8 0] 41 (0, 0)) (bkq BK256)) (below_size bel)); replace BK255 := bkb BK255 hb; replace BK256 := bkb BK256 hb; replace HB := bst hb; (try clear hb); obtain ⟨Ao23, co23, eo23⟩ := Kd.R_slice HO264.out; subst eo23) | ((with_reducible refine gate_dst (N := 15) rfl ?_); refine gl (some 15) Try.func26 #[.slice Ao23 t262.length co23] ?_; (with_reducible refine (attr_Best.calls k _ _ t262 t265 t266 t267 t268 _ ?side1 ?side2 A15.out).mono ?_); (case side1 => exact rR HO264); (case side2 => exact (Kd.R_reads' HO264.out).2.1); rintro e w24 ⟨rfl, hb⟩; refine ⟨_, rfl, ?_⟩; replace HO264 := A_ (Kd.R_below (kR HO264) hb); replace BK255 := bkb BK255 hb; replace BK256 := bkb BK256 hb; replace HB := bst hb; (try clear hb); have hcz25 := bc4 BK256))
  refine bodyPost_ret (results_cell_row rfl _ _ gb256 41 #[.bool t265, .int .i64 t266, .int .i64 t267, .int .u8 t268] (0, 0) _ rfl (bkp BK256) Try.underlying41 rfl (by kernel_rfl)) rfl ?_; exact ⟨eqd, bel⟩
end Go.Proofs.Ytcagkdgpoijkoaa.PLm
end
