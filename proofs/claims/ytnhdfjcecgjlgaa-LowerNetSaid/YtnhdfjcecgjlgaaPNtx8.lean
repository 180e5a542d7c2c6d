import Derived.Test.YtnhdfjcecgjlgaaShort
import Derived.Test.YtnhdfjcecgjlgaaSh2
import Derived.Test.YtnhdfjcecgjlgaaPNtx0
import Derived.Test.YtnhdfjcecgjlgaaPNtx7
namespace Go.Proofs.Ytnhdfjcecgjlgaa.PNt
open Go.RowKit Go.Proofs.Ytnhdfjcecgjlgaa.Short Go.Proofs.YtnhdfjcecgjlgaaW.PrintWords Go.Proofs.YtnhdfjcecgjlgaaW.PrintLast Go.Proofs.YtnhdfjcecgjlgaaW.PrintMore
attribute [local go_sem] max2_int min2_int max_two min_two max_three min_three max_four min_four
set_option linter.unusedVariables false
set_option linter.unusedSimpArgs false
def maquettelaw07_Clauses.l0 : Nat → List (S81) → List (S79) → Int → Int → Option ((List (S81)))
 | 0, _, _, _, _ => none
 | k + 1, x3, x6, x7, x8 => if x8 < x7 then (if 0 ≤ x8 then (if x8 < (x6.length : Int) then (if x8 < 5 then ((maquettelaw07_Rule_Clause.f k ((rd_T79 x6 x8).f0) ((rd_T79 x6 x8).f1) ((rd_T79 x6 x8).f2) ((rd_T79 x6 x8).f3) ((rd_T79 x6 x8).f4) ((rd_T79 x6 x8).f5)).bind fun bt146 => (if x3.length < 2932031007402 then (maquettelaw07_Clauses.l0 k (x3 ++ [(⟨bt146.1, (⟨bt146.2.1, bt146.2.2.1⟩ : S36), bt146.2.2.2.1, bt146.2.2.2.2.1, bt146.2.2.2.2.2.1, bt146.2.2.2.2.2.2.1, bt146.2.2.2.2.2.2.2.1, bt146.2.2.2.2.2.2.2.2.1, bt146.2.2.2.2.2.2.2.2.2⟩ : S81)]) x6 x7 (wrap64 (x8 + 1))) else (none))) else (maquettelaw07_Clauses.l0 k x3 x6 x7 (wrap64 (x8 + 1)))) else (none)) else (none)) else (some x3)
def maquettelaw07_Clauses.f (k : Nat) (l0 : List (S79)) : Option ((List (S81))) := maquettelaw07_Clauses.l0 k ([] : List (S81)) l0 (l0.length : Int) 0
theorem maquettelaw07_Clauses.mono_l : ∀ k, (∀ y0 y1 y2 y3, LeO (maquettelaw07_Clauses.l0 k y0 y1 y2 y3) (maquettelaw07_Clauses.l0 (k + 1) y0 y1 y2 y3))
 | 0 => fun _ _ _ _ r h => by simp [maquettelaw07_Clauses.l0] at h
 | k + 1 => by
  have ih0 := maquettelaw07_Clauses.mono_l k
  ·intro y0 y1 y2 y3
   unfold maquettelaw07_Clauses.l0; repeat' first
   | (with_reducible exact ih0 _ _ _ _)
   | (with_reducible exact maquettelaw07_Rule_Clause.mono _ _ _ _ _ _ _)
   | (with_reducible exact LeO.refl _)
   | (with_reducible exact LeO.none _)
   | (with_reducible refine LeO.ite ?_ ?_)
   | (with_reducible refine LeO.bind ?_ (fun _ => ?_))
   | exact ih0 _ _ _ _
   | exact maquettelaw07_Rule_Clause.mono _ _ _ _ _ _ _
   | exact LeO.none _
   | refine LeO.ite ?_ ?_
   | refine LeO.bind ?_ (fun _ => ?_)
theorem maquettelaw07_Clauses.mono : ∀ a0 k, LeO (maquettelaw07_Clauses.f k a0) (maquettelaw07_Clauses.f (k + 1) a0) := by
 intro a0 k; have ih0 := maquettelaw07_Clauses.mono_l k; unfold maquettelaw07_Clauses.f
 repeat' first
   | (with_reducible exact ih0 _ _ _ _)
   | (with_reducible exact maquettelaw07_Rule_Clause.mono _ _ _ _ _ _ _)
   | (with_reducible exact LeO.refl _)
   | (with_reducible exact LeO.none _)
   | (with_reducible refine LeO.ite ?_ ?_)
   | (with_reducible refine LeO.bind ?_ (fun _ => ?_))
   | exact ih0 _ _ _ _
   | exact maquettelaw07_Rule_Clause.mono _ _ _ _ _ _ _
   | exact LeO.none _
   | refine LeO.ite ?_ ?_
   | refine LeO.bind ?_ (fun _ => ?_)
set_option maxHeartbeats 8000000 in
set_option maxRecDepth 100000 in
theorem maquettelaw07_Clauses.calls (k : Nat) (A0 : Option Addr) (c0 : Nat) (l0 : List (S79)) (r : List (S81)) (w : World) (hr0 : Kd.C k79 w A0 l0.length l0) (hc0 : l0.length ≤ c0) (h : maquettelaw07_Clauses.f k l0 = some r) :
  Calls Try.prog 11 #[.slice A0 l0.length c0] w fun e w' => ∃ v0_ : Value, e = .returned (v0_) ∧ Kd.R k81 81 w' w.heap.size (fun _ => True) v0_ r ∧ Below w.heap.size w w' := by
 have hu79 := Try.underlying79; have HR0 := A_ hr0; have HC0 := A_ hc0; clear hr0 hc0; have HB := A_ (Below.refl w.heap.size w); unfold maquettelaw07_Clauses.f at h; have H := h; clear h; have H' := A_ H; clear H; go_enter Try.func11, Try.ntmps11; go_wp2; go_loopg [3, 8] k (fun kq v3 v8 w' => ∃ (x3_1 : List (S81)) (x8_1 : Int), v8 = .int .i64 x8_1 ∧ Aside0 (maquettelaw07_Clauses.l0 kq x3_1 l0 (l0.length : Int) x8_1 = some r) ∧ Aside0 (kq ≤ k) ∧ Aside0 (Kd.R k81 81 w' w.heap.size (fun _ => True) v3 x3_1) ∧ Aside0 (Below w.heap.size w w'))
 case atStart => exact ⟨(([] : List (S81))), (0), eqs, H', ⟨Nat.le_refl _⟩, ⟨by first | exact Kd.R_nil _ _ _ _ _ | exact Kd.N_nil _ _ _ _ _ | exact Kd.V_nil _ _ _ _ _ | exact Kd.Q_nil _ _ _ _ _ | exact Kd.S_nil _ _ _ _ _⟩, ⟨bel⟩⟩
 case round =>
  clear H'; (try clear c1); obtain ⟨x3_1, x8_1, rfl, HA, HK1, HO_3, HB⟩ := hrel
  cases gk with
  | zero => exact absurd HA.out (by simp [maquettelaw07_Clauses.l0])
  | succ k1 =>
   have H := HA.out; clear HA; simp only [maquettelaw07_Clauses.l0] at H; by_cases c2 : x8_1 < (l0.length : Int)
   ·rw [if_pos c2] at H
    have c2b0 := decide_eq_true c2; clear c2; by_cases c3 : 0 ≤ x8_1
    ·rw [if_pos c3] at H
     have c3b0 := decide_eq_true c3; clear c3; by_cases c4 : x8_1 < (l0.length : Int)
     ·rw [if_pos c4] at H
      have c4b0 := decide_eq_true c4; clear c4; by_cases c5 : x8_1 < 5
      ·rw [if_pos c5] at H
       have c5b0 := decide_eq_true c5; clear c5; replace H := Option.bind_eq_some_iff.mp H; obtain ⟨⟨t146, t147, t148, t149, t150, t151, t152, t153, t154, t155⟩, A60, H⟩ := H; dsimp only at H; have A6 := A_ A60; clear A60; by_cases c7 : x3_1.length < 2932031007402
       ·rw [if_pos c7] at H
        have LMc7 := A_ c7; clear c7; obtain ⟨y156, hy156⟩ : ∃ y_ : List (S81), y_ = (x3_1 ++ [(⟨t146, (⟨t147, t148⟩ : S36), t149, t150, t151, t152, t153, t154, t155⟩ : S81)]) := ⟨_, rfl⟩; (first | rw [← hy156] at H | (have H2_ := (Option.bind_some _ _).symm.trans H; clear H; have H := H2_; clear H2_; (try rw [← hy156] at H))); have Ny156 := A_ hy156; clear hy156; have H' := A_ H; clear H; have p144 : 0 ≤ (x8_1 : Int) := odt; have q144 : x8_1 < (l0.length : Int) := odt; obtain ⟨ad144, e144, hx144_0, hx144_1, hx144_2, hx144_3, hx144_4, hx144_5⟩ := at_T79 HR0.out x8_1 p144 q144; cases e144; replace hx144_0 := hbc HB hx144_0; replace hx144_1 := hbc HB hx144_1; replace hx144_2 := hbc HB hx144_2; replace hx144_3 := hbc HB hx144_3; replace hx144_4 := hbc HB hx144_4; replace hx144_5 := hbc HB hx144_5; replace p144 := eq_true p144; replace q144 := eq_true q144
        go_wp2_with (first | ((with_reducible refine gate_dst (N := 5) rfl ?_); refine bx 5 (cs := #[.int .u8 0, .int .u8 0, .int .u8 0, .int .u8 0, .int .u8 0, .int .u8 0]) (t := 79) (h := ?_); intro gb145 hg w8 hbox hb; have BK145 := A_ hbox; have GW145 : Aside0 (w.heap.size ≤ gb145) := bge hg; replace HO_3 := A_ (Kd.R_below (kR HO_3) hb); replace HB := bst hb; clear hb hbox hg; have hcz9 := bc6 BK145) | ((with_reducible refine gate_dst (N := 17) rfl ?_); refine gl (some 17) Try.func26 #[.agg #[.int .u8 ((rd_T79 l0 x8_1).f0), .int .u8 ((rd_T79 l0 x8_1).f1), .int .u8 ((rd_T79 l0 x8_1).f2), .int .u8 ((rd_T79 l0 x8_1).f3), .int .u8 ((rd_T79 l0 x8_1).f4), .int .u8 ((rd_T79 l0 x8_1).f5)]] ?_; (with_reducible refine (maquettelaw07_Rule_Clause.calls k1 ((rd_T79 l0 x8_1).f0) ((rd_T79 l0 x8_1).f1) ((rd_T79 l0 x8_1).f2) ((rd_T79 l0 x8_1).f3) ((rd_T79 l0 x8_1).f4) ((rd_T79 l0 x8_1).f5) t146 t147 t148 t149 t150 t151 t152 t153 t154 t155 _ A6.out).mono ?_); rintro e w10 ⟨rfl, hb⟩; refine ⟨_, rfl, ?_⟩; replace HO_3 := A_ (Kd.R_below (by (with_reducible repeat (first | apply Kd.R_alloc | apply Kd.R_drewN | apply Kd.R_drew)); exact (Kd.R_mono (Kd.R_far (p := ⟨gb145, 5, none⟩) (Kd.R_far (p := ⟨gb145, 4, none⟩) (Kd.R_far (p := ⟨gb145, 3, none⟩) (Kd.R_far (p := ⟨gb145, 2, none⟩) (Kd.R_far (p := ⟨gb145, 1, none⟩) (Kd.R_far (p := ⟨gb145, 0, none⟩) (Kd.R_types HO_3.out BK145.out (by decide)) (fun _ hk => hk.2) (.int .u8 ((rd_T79 l0 x8_1).f0))) (fun _ hk => hk.2) (.int .u8 ((rd_T79 l0 x8_1).f1))) (fun _ hk => hk.2) (.int .u8 ((rd_T79 l0 x8_1).f2))) (fun _ hk => hk.2) (.int .u8 ((rd_T79 l0 x8_1).f3))) (fun _ hk => hk.2) (.int .u8 ((rd_T79 l0 x8_1).f4))) (fun _ hk => hk.2) (.int .u8 ((rd_T79 l0 x8_1).f5))) (fun _ h_ => h_.1))) hb); replace BK145 := A_ (blk_below (g := gb145) (o := .cells #[.int .u8 ((rd_T79 l0 x8_1).f0), .int .u8 ((rd_T79 l0 x8_1).f1), .int .u8 ((rd_T79 l0 x8_1).f2), .int .u8 ((rd_T79 l0 x8_1).f3), .int .u8 ((rd_T79 l0 x8_1).f4), .int .u8 ((rd_T79 l0 x8_1).f5)] 79 (0, 0)) (bkp BK145) hb); replace HB := bst hb; (try clear hb)) | ((with_reducible refine gate_builtin (b := .append) (xs := #[.tmp 15, .tmp 18]) rfl ?_); at_builtin; refine Kd.R_append k81 (w0 := w) w.heap.size rfl (.tmp 15) (.tmp 18) 53 81 (.agg #[(.bool false), (.int .u32 0), (.int .i64 0), (.int .u8 0), (.int .u8 0), (.bool false), (.int .u8 0), (.int .u8 0), (.int .i64 0), (.int .i64 0)]) 48 rfl Try.underlying53 info81 rfl (by decide) (by omega) u3 x3_1 (⟨t146, (⟨t147, t148⟩ : S36), t149, t150, t151, t152, t153, t154, t155⟩ : S81) [.bool t146, .int .u32 t147, .int .i64 t148, .int .u8 t149, .int .u8 t150, .bool t151, .int .u8 t152, .int .u8 t153, .int .i64 t154, .int .i64 t155] (fun _ => True) (fun _ => False) rfl rfl ?aP (fun _ hk => hk.elim) ?aF ?aO ?aB ?aS ?aL ?_; (case aP => exact k81_mkM _ _ _ (⟨t146, (⟨t147, t148⟩ : S36), t149, t150, t151, t152, t153, t154, t155⟩ : S81)); (case aB => exact bel); (case aF => exact (fun _ _ => trivial)); (case aO => exact (kR HO_3)); (case aS => exact (below_size bel)); (case aL => have := LMc7.out; omega); intro v157 w11 ho hb hg hat; rw [← Ny156.out] at ho; have HO158 := A_ ho; replace BK145 := A_ (blk_grown (bkq BK145) hg (Kd.R_ne HO_3.out BK145.out (by decide))); replace HB := A_ (hb); clear HO_3; clear ho hb hg hat))
        go_roundg k1
        case measure => have := HK1.out; omega
        case rel => exact ⟨(y156), (wrap64 (x8_1 + 1)), eqs, H', ⟨by have := HK1.out; omega⟩, ⟨fR HO158⟩, ⟨bel⟩⟩
       ·rw [if_neg c7] at H
        exact absurd H (by simp)
      ·rw [if_neg c5] at H
       have c5b0 := decide_eq_false c5; clear c5; have H' := A_ H; clear H; have p144 : 0 ≤ (x8_1 : Int) := odt; have q144 : x8_1 < (l0.length : Int) := odt; obtain ⟨ad144, e144, hx144_0, hx144_1, hx144_2, hx144_3, hx144_4, hx144_5⟩ := at_T79 HR0.out x8_1 p144 q144; cases e144; replace hx144_0 := hbc HB hx144_0; replace hx144_1 := hbc HB hx144_1; replace hx144_2 := hbc HB hx144_2; replace hx144_3 := hbc HB hx144_3; replace hx144_4 := hbc HB hx144_4; replace hx144_5 := hbc HB hx144_5; replace p144 := eq_true p144; replace q144 := eq_true q144; go_wp2_with (first | ((with_reducible refine gate_dst (N := 5) rfl ?_); refine bx 5 (cs := #[.int .u8 0, .int .u8 0, .int .u8 0, .int .u8 0, .int .u8 0, .int .u8 0]) (t := 79) (h := ?_); intro gb145 hg w12 hbox hb; have BK145 := A_ hbox; have GW145 : Aside0 (w.heap.size ≤ gb145) := bge hg; replace HO_3 := A_ (Kd.R_below (kR HO_3) hb); replace HB := bst hb; clear hb hbox hg; have hcz13 := bc6 BK145)); go_roundg k1
       case measure => have := HK1.out; omega
       case rel => exact ⟨(x3_1), (wrap64 (x8_1 + 1)), eqs, H', ⟨by have := HK1.out; omega⟩, ⟨by (with_reducible repeat (first | apply Kd.R_alloc | apply Kd.R_drewN | apply Kd.R_drew)); exact Kd.R_mono (Kd.R_far (p := ⟨gb145, 5, none⟩) (Kd.R_far (p := ⟨gb145, 4, none⟩) (Kd.R_far (p := ⟨gb145, 3, none⟩) (Kd.R_far (p := ⟨gb145, 2, none⟩) (Kd.R_far (p := ⟨gb145, 1, none⟩) (Kd.R_far (p := ⟨gb145, 0, none⟩) (Kd.R_types HO_3.out BK145.out (by decide)) (fun _ hk => hk.2) (.int .u8 ((rd_T79 l0 x8_1).f0))) (fun _ hk => hk.2) (.int .u8 ((rd_T79 l0 x8_1).f1))) (fun _ hk => hk.2) (.int .u8 ((rd_T79 l0 x8_1).f2))) (fun _ hk => hk.2) (.int .u8 ((rd_T79 l0 x8_1).f3))) (fun _ hk => hk.2) (.int .u8 ((rd_T79 l0 x8_1).f4))) (fun _ hk => hk.2) (.int .u8 ((rd_T79 l0 x8_1).f5))) (fun _ hk => trivial)⟩, ⟨bel⟩⟩
     ·rw [if_neg c4] at H
      exact absurd H (by simp)
    ·rw [if_neg c3] at H
     exact absurd H (by simp)
   ·rw [if_neg c2] at H
    have c2b0 := decide_eq_false c2; clear c2; obtain rfl := Option.some.inj H; go_wp2; go_ret; exact ⟨_, eqd, by (with_reducible repeat (first | apply Kd.R_alloc | apply Kd.R_drewN | apply Kd.R_drew)); exact HO_3.out, bel⟩
end Go.Proofs.Ytnhdfjcecgjlgaa.PNt
