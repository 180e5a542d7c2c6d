/- Texts of this work, joined: PLmx4, PLmx5, PLmx6, PLmx7. -/
import Derived.Test.YtcagkdgpoijkoaaShort
import Derived.Test.YtcagkdgpoijkoaaSh2
import Derived.Test.YtcagkdgpoijkoaaPLmx0
import Derived.Test.YtcagkdgpoijkoaaPLmx3
section
namespace Go.Proofs.Ytcagkdgpoijkoaa.PLm
open Go.RowKit Go.Proofs.Ytcagkdgpoijkoaa.Short Go.Proofs.YtcagkdgpoijkoaaW.PrintWords Go.Proofs.YtcagkdgpoijkoaaW.PrintLast Go.Proofs.YtcagkdgpoijkoaaW.PrintMore
attribute [local go_sem] max2_int min2_int max_two min_two max_three min_three max_four min_four
set_option linter.unusedVariables false
set_option linter.unusedSimpArgs false
def maquettelaw07_Clauses.l0 : Nat → List (S116) → List (S114) → Int → Int → Option ((List (S116)))
 | 0, _, _, _, _ => none
 | k + 1, x3, x6, x7, x8 => if x8 < x7 then (if 0 ≤ x8 then (if x8 < (x6.length : Int) then (if x8 < 5 then ((maquettelaw07_Rule_Clause.f k ((rd_T114 x6 x8).f0) ((rd_T114 x6 x8).f1) ((rd_T114 x6 x8).f2) ((rd_T114 x6 x8).f3) ((rd_T114 x6 x8).f4) ((rd_T114 x6 x8).f5)).bind fun bt116 => (if x3.length < 2932031007402 then (maquettelaw07_Clauses.l0 k (x3 ++ [(⟨bt116.1, (⟨bt116.2.1, bt116.2.2.1⟩ : S35), bt116.2.2.2.1, bt116.2.2.2.2.1, bt116.2.2.2.2.2.1, bt116.2.2.2.2.2.2.1, bt116.2.2.2.2.2.2.2.1, bt116.2.2.2.2.2.2.2.2.1, bt116.2.2.2.2.2.2.2.2.2⟩ : S116)]) x6 x7 (wrap64 (x8 + 1))) else (none))) else (maquettelaw07_Clauses.l0 k x3 x6 x7 (wrap64 (x8 + 1)))) else (none)) else (none)) else (some x3)
def maquettelaw07_Clauses.f (k : Nat) (l0 : List (S114)) : Option ((List (S116))) := maquettelaw07_Clauses.l0 k ([] : List (S116)) l0 (l0.length : Int) 0
theorem maquettelaw07_Clauses.mono_l : ∀ k, (∀ y0 y1 y2 y3, LeO (maquettelaw07_Clauses.l0 k y0 y1 y2 y3) (maquettelaw07_Clauses.l0 (k + 1) y0 y1 y2 y3))
 | 0 => fun _ _ _ _ r h => by simp [maquettelaw07_Clauses.l0] at h
 | k + 1 => by
  have ih0 := maquettelaw07_Clauses.mono_l k
  ·intro y0 y1 y2 y3
   unfold maquettelaw07_Clauses.l0; repeat' first
   | (with_reducible exact ih0 _ _ _ _)
   | (with_reducible exact maquettelaw07_Rule_Clause.mono _ _ _ _ _ _ _)
   | (with_reducible exact LeO.refl _)
   | (with_reducible exact LeO.none _)
   | (with_reducible refine LeO.ite ?_ ?_)
   | (with_reducible refine LeO.bind ?_ (fun _ => ?_))
   | exact ih0 _ _ _ _
   | exact maquettelaw07_Rule_Clause.mono _ _ _ _ _ _ _
   | exact LeO.none _
   | refine LeO.ite ?_ ?_
   | refine LeO.bind ?_ (fun _ => ?_)
theorem maquettelaw07_Clauses.mono : ∀ a0 k, LeO (maquettelaw07_Clauses.f k a0) (maquettelaw07_Clauses.f (k + 1) a0) := by
 intro a0 k; have ih0 := maquettelaw07_Clauses.mono_l k; unfold maquettelaw07_Clauses.f
 repeat' first
   | (with_reducible exact ih0 _ _ _ _)
   | (with_reducible exact maquettelaw07_Rule_Clause.mono _ _ _ _ _ _ _)
   | (with_reducible exact LeO.refl _)
   | (with_reducible exact LeO.none _)
   | (with_reducible refine LeO.ite ?_ ?_)
   | (with_reducible refine LeO.bind ?_ (fun _ => ?_))
   | exact ih0 _ _ _ _
   | exact maquettelaw07_Rule_Clause.mono _ _ _ _ _ _ _
   | exact LeO.none _
   | refine LeO.ite ?_ ?_
   | refine LeO.bind ?_ (fun _ => ?_)
set_option maxHeartbeats 8000000 in
set_option maxRecDepth 100000 in
theorem maquettelaw07_Clauses.calls (k : Nat) (A0 : Option Addr) (c0 : Nat) (l0 : List (S114)) (r : List (S116)) (w : World) (hr0 : Kd.C k114 w A0 l0.length l0) (hc0 : l0.length ≤ c0) (h : maquettelaw07_Clauses.f k l0 = some r) :
  Calls Try.prog 31 #[.slice A0 l0.length c0] w fun e w' => ∃ v0_ : Value, e = .returned (v0_) ∧ Kd.R k116 116 w' w.heap.size (fun _ => True) v0_ r ∧ Below w.heap.size w w' := by
 have hu114 := Try.underlying114; have HR0 := A_ hr0; have HC0 := A_ hc0; clear hr0 hc0; have HB := A_ (Below.refl w.heap.size w); unfold maquettelaw07_Clauses.f at h; have H := h; clear h; have H' := A_ H; clear H; go_enter Try.func31, Try.ntmps31; go_wp2; go_loopg [3, 8] k (fun kq v3 v8 w' => ∃ (x3_1 : List (S116)) (x8_1 : Int), v8 = .int .i64 x8_1 ∧ Aside0 (maquettelaw07_Clauses.l0 kq x3_1 l0 (l0.length : Int) x8_1 = some r) ∧ Aside0 (kq ≤ k) ∧ Aside0 (Kd.R k116 116 w' w.heap.size (fun _ => True) v3 x3_1) ∧ Aside0 (Below w.heap.size w w'))
 case atStart => exact ⟨(([] : List (S116))), (0), eqs, H', ⟨Nat.le_refl _⟩, ⟨by first | exact Kd.R_nil _ _ _ _ _ | exact Kd.N_nil _ _ _ _ _ | exact Kd.V_nil _ _ _ _ _ | exact Kd.Q_nil _ _ _ _ _ | exact Kd.S_nil _ _ _ _ _⟩, ⟨bel⟩⟩
 case round =>
  clear H'; obtain ⟨x3_1, x8_1, rfl, HA, HK1, HO_3, HB⟩ := hrel
  cases gk with
  | zero => exact absurd HA.out (by simp [maquettelaw07_Clauses.l0])
  | succ k1 =>
   have H := HA.out; clear HA; simp only [maquettelaw07_Clauses.l0] at H; by_cases c2 : x8_1 < (l0.length : Int)
   ·rw [if_pos c2] at H
    have c2b0 := decide_eq_true c2; clear c2; by_cases c3 : 0 ≤ x8_1
    ·rw [if_pos c3] at H
     have c3b0 := decide_eq_true c3; clear c3; by_cases c4 : x8_1 < (l0.length : Int)
     ·rw [if_pos c4] at H
      have c4b0 := decide_eq_true c4; clear c4; by_cases c5 : x8_1 < 5
      ·rw [if_pos c5] at H
       have c5b0 := decide_eq_true c5; clear c5; replace H := Option.bind_eq_some_iff.mp H; obtain ⟨⟨t116, t117, t118, t119, t120, t121, t122, t123, t124, t125⟩, A60, H⟩ := H; dsimp only at H; have A6 := A_ A60; clear A60; by_cases c7 : x3_1.length < 2932031007402
       ·rw [if_pos c7] at H
        have LMc7 := A_ c7; clear c7; obtain ⟨y126, hy126⟩ : ∃ y_ : List (S116), y_ = (x3_1 ++ [(⟨t116, (⟨t117, t118⟩ : S35), t119, t120, t121, t122, t123, t124, t125⟩ : S116)]) := ⟨_, rfl⟩; (first | rw [← hy126] at H | (have H2_ := (Option.bind_some _ _).symm.trans H; clear H; have H := H2_; clear H2_; (try rw [← hy126] at H))); have Ny126 := A_ hy126; clear hy126; have H' := A_ H; clear H; have p114 : 0 ≤ (x8_1 : Int) := odt; have q114 : x8_1 < (l0.length : Int) := odt; obtain ⟨ad114, e114, hx114_0, hx114_1, hx114_2, hx114_3, hx114_4, hx114_5⟩ := at_T114 HR0.out x8_1 p114 q114; cases e114; replace hx114_0 := hbc HB hx114_0; replace hx114_1 := hbc HB hx114_1; replace hx114_2 := hbc HB hx114_2; replace hx114_3 := hbc HB hx114_3; replace hx114_4 := hbc HB hx114_4; replace hx114_5 := hbc HB hx114_5; replace p114 := eq_true p114; replace q114 := eq_true q114
        go_wp2_with (first | ((with_reducible refine gate_dst (N := 5) rfl ?_); refine bx 5 (cs := #[.int .u8 0, .int .u8 0, .int .u8 0, .int .u8 0, .int .u8 0, .int .u8 0]) (t := 114) (h := ?_); intro gb115 hg w8 hbox hb; have BK115 := A_ hbox; have GW115 : Aside0 (w.heap.size ≤ gb115) := bge hg; replace HO_3 := A_ (Kd.R_below (kR HO_3) hb); replace HB := bst hb; clear hb hbox hg; have hcz9 := bc6 BK115) | ((with_reducible refine gate_dst (N := 17) rfl ?_); refine gl (some 17) Try.func47 #[.agg #[.int .u8 ((rd_T114 l0 x8_1).f0), .int .u8 ((rd_T114 l0 x8_1).f1), .int .u8 ((rd_T114 l0 x8_1).f2), .int .u8 ((rd_T114 l0 x8_1).f3), .int .u8 ((rd_T114 l0 x8_1).f4), .int .u8 ((rd_T114 l0 x8_1).f5)]] ?_; (with_reducible refine (maquettelaw07_Rule_Clause.calls k1 ((rd_T114 l0 x8_1).f0) ((rd_T114 l0 x8_1).f1) ((rd_T114 l0 x8_1).f2) ((rd_T114 l0 x8_1).f3) ((rd_T114 l0 x8_1).f4) ((rd_T114 l0 x8_1).f5) t116 t117 t118 t119 t120 t121 t122 t123 t124 t125 _ A6.out).mono ?_); rintro e w10 ⟨rfl, hb⟩; refine ⟨_, rfl, ?_⟩; replace HO_3 := A_ (Kd.R_below (by (with_reducible repeat (first | apply Kd.R_alloc | apply Kd.R_drewN | apply Kd.R_drew)); exact (Kd.R_mono (Kd.R_far (p := ⟨gb115, 5, none⟩) (Kd.R_far (p := ⟨gb115, 4, none⟩) (Kd.R_far (p := ⟨gb115, 3, none⟩) (Kd.R_far (p := ⟨gb115, 2, none⟩) (Kd.R_far (p := ⟨gb115, 1, none⟩) (Kd.R_far (p := ⟨gb115, 0, none⟩) (Kd.R_types HO_3.out BK115.out (by decide)) (fun _ hk => hk.2) (.int .u8 ((rd_T114 l0 x8_1).f0))) (fun _ hk => hk.2) (.int .u8 ((rd_T114 l0 x8_1).f1))) (fun _ hk => hk.2) (.int .u8 ((rd_T114 l0 x8_1).f2))) (fun _ hk => hk.2) (.int .u8 ((rd_T114 l0 x8_1).f3))) (fun _ hk => hk.2) (.int .u8 ((rd_T114 l0 x8_1).f4))) (fun _ hk => hk.2) (.int .u8 ((rd_T114 l0 x8_1).f5))) (fun _ h_ => h_.1))) hb); replace BK115 := A_ (blk_below (g := gb115) (o := .cells #[.int .u8 ((rd_T114 l0 x8_1).f0), .int .u8 ((rd_T114 l0 x8_1).f1), .int .u8 ((rd_T114 l0 x8_1).f2), .int .u8 ((rd_T114 l0 x8_1).f3), .int .u8 ((rd_T114 l0 x8_1).f4), .int .u8 ((rd_T114 l0 x8_1).f5)] 114 (0, 0)) (bkp BK115) hb); replace HB := bst hb; (try clear hb)) | ((with_reducible refine gate_builtin (b := .append) (xs := #[.tmp 15, .tmp 18]) rfl ?_); at_builtin; refine Kd.R_append k116 (w0 := w) w.heap.size rfl (.tmp 15) (.tmp 18) 49 116 (.agg #[(.bool false), (.int .u32 0), (.int .i64 0), (.int .u8 0), (.int .u8 0), (.bool false), (.int .u8 0), (.int .u8 0), (.int .i64 0), (.int .i64 0)]) 48 rfl Try.underlying49 info116 rfl (by decide) (by omega) u3 x3_1 (⟨t116, (⟨t117, t118⟩ : S35), t119, t120, t121, t122, t123, t124, t125⟩ : S116) [.bool t116, .int .u32 t117, .int .i64 t118, .int .u8 t119, .int .u8 t120, .bool t121, .int .u8 t122, .int .u8 t123, .int .i64 t124, .int .i64 t125] (fun _ => True) (fun _ => False) rfl rfl ?aP (fun _ hk => hk.elim) ?aF ?aO ?aB ?aS ?aL ?_; (case aP => exact k116_mkM _ _ _ (⟨t116, (⟨t117, t118⟩ : S35), t119, t120, t121, t122, t123, t124, t125⟩ : S116)); (case aB => exact bel); (case aF => exact (fun _ _ => trivial)); (case aO => exact (kR HO_3)); (case aS => exact (below_size bel)); (case aL => have := LMc7.out; omega); intro v127 w11 ho hb hg hat; rw [← Ny126.out] at ho; have HO128 := A_ ho; replace BK115 := A_ (blk_grown (bkq BK115) hg (Kd.R_ne HO_3.out BK115.out (by decide))); replace HB := A_ (hb); clear HO_3; clear ho hb hg hat))
        go_roundg k1
        case measure => have := HK1.out; omega
        case rel => exact ⟨(y126), (wrap64 (x8_1 + 1)), eqs, H', ⟨by have := HK1.out; omega⟩, ⟨fR HO128⟩, ⟨bel⟩⟩
       ·rw [if_neg c7] at H
        exact absurd H (by simp)
      ·rw [if_neg c5] at H
       have c5b0 := decide_eq_false c5; clear c5; have H' := A_ H; clear H; have p114 : 0 ≤ (x8_1 : Int) := odt; have q114 : x8_1 < (l0.length : Int) := odt; obtain ⟨ad114, e114, hx114_0, hx114_1, hx114_2, hx114_3, hx114_4, hx114_5⟩ := at_T114 HR0.out x8_1 p114 q114; cases e114; replace hx114_0 := hbc HB hx114_0; replace hx114_1 := hbc HB hx114_1; replace hx114_2 := hbc HB hx114_2; replace hx114_3 := hbc HB hx114_3; replace hx114_4 := hbc HB hx114_4; replace hx114_5 := hbc HB hx114_5; replace p114 := eq_true p114; replace q114 := eq_true q114; go_wp2_with (first | ((with_reducible refine gate_dst (N := 5) rfl ?_); refine bx 5 (cs := #[.int .u8 0, .int .u8 0, .int .u8 0, .int .u8 0, .int .u8 0, .int .u8 0]) (t := 114) (h := ?_); intro gb115 hg w12 hbox hb; have BK115 := A_ hbox; have GW115 : Aside0 (w.heap.size ≤ gb115) := bge hg; replace HO_3 := A_ (Kd.R_below (kR HO_3) hb); replace HB := bst hb; clear hb hbox hg; have hcz13 := bc6 BK115)); go_roundg k1
       case measure => have := HK1.out; omega
       case rel => exact ⟨(x3_1), (wrap64 (x8_1 + 1)), eqs, H', ⟨by have := HK1.out; omega⟩, ⟨by (with_reducible repeat (first | apply Kd.R_alloc | apply Kd.R_drewN | apply Kd.R_drew)); exact Kd.R_mono (Kd.R_far (p := ⟨gb115, 5, none⟩) (Kd.R_far (p := ⟨gb115, 4, none⟩) (Kd.R_far (p := ⟨gb115, 3, none⟩) (Kd.R_far (p := ⟨gb115, 2, none⟩) (Kd.R_far (p := ⟨gb115, 1, none⟩) (Kd.R_far (p := ⟨gb115, 0, none⟩) (Kd.R_types HO_3.out BK115.out (by decide)) (fun _ hk => hk.2) (.int .u8 ((rd_T114 l0 x8_1).f0))) (fun _ hk => hk.2) (.int .u8 ((rd_T114 l0 x8_1).f1))) (fun _ hk => hk.2) (.int .u8 ((rd_T114 l0 x8_1).f2))) (fun _ hk => hk.2) (.int .u8 ((rd_T114 l0 x8_1).f3))) (fun _ hk => hk.2) (.int .u8 ((rd_T114 l0 x8_1).f4))) (fun _ hk => hk.2) (.int .u8 ((rd_T114 l0 x8_1).f5))) (fun _ hk => trivial)⟩, ⟨bel⟩⟩
     ·rw [if_neg c4] at H
      exact absurd H (by simp)
    ·rw [if_neg c3] at H
     exact absurd H (by simp)
   ·rw [if_neg c2] at H
    have c2b0 := decide_eq_false c2; clear c2; obtain rfl := Option.some.inj H; go_wp2; go_ret; exact ⟨_, eqd, by (with_reducible repeat (first | apply Kd.R_alloc | apply Kd.R_drewN | apply Kd.R_drew)); exact HO_3.out, bel⟩
def maquettelaw07_Name.f (a0 : Int) : Option (ByteArray) := if 1 + (Utf8.encode (wrap32 (wrap64 (97 + a0)))).size ≤ 9223372036854775807 then (some ((⟨#[114]⟩ : ByteArray) ++ (Utf8.encode (wrap32 (wrap64 (97 + a0)))))) else (none)
set_option maxHeartbeats 8000000 in
set_option maxRecDepth 100000 in
theorem maquettelaw07_Name.calls (a0 : Int) (r : ByteArray) (w : World) (h : maquettelaw07_Name.f a0 = some r) :
  Calls Try.prog 32 #[.int .i64 a0] w fun e w' => e = .returned (.string r) ∧ Drawn0 w w' := by
 unfold maquettelaw07_Name.f at h; have H := h; clear h; by_cases c2 : 1 + (Utf8.encode (wrap32 (wrap64 (97 + a0)))).size ≤ 9223372036854775807
 ·rw [if_pos c2] at H
  have c2b0 := eq_true c2; have c2b1 := decide_eq_true c2; (try have c2b2 := eq_false (Nat.not_lt.2 c2)); obtain rfl := Option.some.inj H; go_enter Try.func32, Try.ntmps32; go_wp2; go_ret; exact ⟨by first | rfl | (simp; done) | (simp [*]; done), by repeat (first | exact Drawn0.refl _ | apply Drawn0.step)⟩
 ·rw [if_neg c2] at H
  exact absurd H (by simp)
def maquettelaw07_number.f (l0 : List Int) (a1 : Int) : Option (Int) := if (l0.length : Int) = 0 then (some 0) else (if 0 ≤ (Int.tmod a1 (l0.length : Int)) then (if (Int.tmod a1 (l0.length : Int)) < (l0.length : Int) then (some (wrap64 (rd l0 (Int.tmod a1 (l0.length : Int))))) else (none)) else (none))
set_option maxHeartbeats 8000000 in
set_option maxRecDepth 100000 in
theorem maquettelaw07_number.calls (A0 : Option Addr) (c0 : Nat) (l0 : List Int) (a1 : Int) (r : Int) (w : World) (hr0 : Kd.C (Kd.int .u8) w A0 l0.length l0) (hc0 : l0.length ≤ c0) (h : maquettelaw07_number.f l0 a1 = some r) :
  Calls Try.prog 33 #[.slice A0 l0.length c0, .int .i64 a1] w fun e w' => e = .returned (.int .i64 r) ∧ Drawn0 w w' := by
 have HR0 := A_ hr0; have HC0 := A_ hc0; clear hr0 hc0; unfold maquettelaw07_number.f at h; have H := h; clear h; by_cases c3 : (l0.length : Int) = 0
 ·rw [if_pos c3] at H
  have c3b0 : ((l0.length : Int) == 0) = true := beq_iff_eq.mpr c3; have c3b1 : ((l0.length : Int) != 0) = false := bne_eq_false_iff_eq.mpr c3; clear c3; obtain rfl := Option.some.inj H; go_enter Try.func33, Try.ntmps33; go_wp2; go_ret; exact ⟨by first | rfl | (simp; done) | (simp [*]; done), by repeat (first | exact Drawn0.refl _ | apply Drawn0.step)⟩
 ·rw [if_neg c3] at H
  have c3b0 : ((l0.length : Int) == 0) = false := beq_eq_false_iff_ne.mpr c3; have c3b1 : ((l0.length : Int) != 0) = true := bne_iff_ne.mpr c3; (have c3b2 : ¬ (l0 = []) := fun h_ => c3 (by rw [h_]; rfl)); obtain ⟨ji4, hji4⟩ : ∃ j_ : Int, (Int.tmod a1 (l0.length : Int)) = j_ := ⟨_, rfl⟩; (replace H : (if 0 ≤ (ji4) then (if (ji4) < (l0.length : Int) then (some (wrap64 (rd l0 (ji4)))) else (none)) else (none)) = some r := by first | (rw [hji4] at H; exact H) | (simp only [hji4] at H ⊢; exact H)); by_cases c5 : 0 ≤ (ji4)
  ·rw [if_pos c5] at H
   have c5b0 := decide_eq_true c5; clear c5; by_cases c6 : (ji4) < (l0.length : Int)
   ·rw [if_pos c6] at H
    have c6b0 := decide_eq_true c6; clear c6; obtain rfl := Option.some.inj H; have p129 : 0 ≤ ((ji4) : Int) := odt; have q129 : (ji4) < (l0.length : Int) := odt; obtain ⟨ad129, e129, hx129_0⟩ := Kd.at_int HR0.out (ji4) p129 q129; cases e129; replace p129 := eq_true p129; replace q129 := eq_true q129; go_enter Try.func33, Try.ntmps33; go_wp2; go_ret; exact ⟨by first | rfl | (simp; done) | (simp only [← hji4] <;> (first | rfl | simp)) | (simp [*]; done), by repeat (first | exact Drawn0.refl _ | apply Drawn0.step)⟩
   ·rw [if_neg c6] at H
    exact absurd H (by simp)
  ·rw [if_neg c5] at H
   exact absurd H (by simp)
def maquettelaw07_Shape_mapped.f (a0_0 : Int) (l0_1 : List Int) (l0_2 : List (List (S114))) (l0_3 : List Int) (l0_4 : List Int) (l0_5 : List Int) (a1 : Int) : Option (ByteArray) := if (mn (l0_2.length : Int) 4) = 0 then (some (⟨#[]⟩ : ByteArray)) else (if (Int.tmod a1 3) > 0 then (some (⟨#[]⟩ : ByteArray)) else (if 1 + (Utf8.encode (wrap32 (wrap64 (97 + (Int.tmod (wrap64 (Int.tdiv a1 3)) (mn (l0_2.length : Int) 4)))))).size ≤ 9223372036854775807 then (some ((⟨#[109]⟩ : ByteArray) ++ (Utf8.encode (wrap32 (wrap64 (97 + (Int.tmod (wrap64 (Int.tdiv a1 3)) (mn (l0_2.length : Int) 4)))))))) else (none)))
set_option maxHeartbeats 8000000 in
set_option maxRecDepth 100000 in
theorem maquettelaw07_Shape_mapped.calls (a0_0 : Int) (A0_1 : Option Addr) (c0_1 : Nat) (l0_1 : List Int) (A0_2 : Option Addr) (c0_2 : Nat) (l0_2 : List (List (S114))) (A0_3 : Option Addr) (c0_3 : Nat) (l0_3 : List Int) (A0_4 : Option Addr) (c0_4 : Nat) (l0_4 : List Int) (A0_5 : Option Addr) (c0_5 : Nat) (l0_5 : List Int) (a1 : Int) (r : ByteArray) (w : World) (hr0_1 : Kd.C (Kd.int .u8) w A0_1 l0_1.length l0_1) (hc0_1 : l0_1.length ≤ c0_1) (hr0_2 : Kd.C (Kd.slice 114 k114) w A0_2 l0_2.length l0_2) (hc0_2 : l0_2.length ≤ c0_2) (hr0_3 : Kd.C (Kd.int .u8) w A0_3 l0_3.length l0_3) (hc0_3 : l0_3.length ≤ c0_3) (hr0_4 : Kd.C (Kd.int .u8) w A0_4 l0_4.length l0_4) (hc0_4 : l0_4.length ≤ c0_4) (hr0_5 : Kd.C (Kd.int .u8) w A0_5 l0_5.length l0_5) (hc0_5 : l0_5.length ≤ c0_5) (h : maquettelaw07_Shape_mapped.f a0_0 l0_1 l0_2 l0_3 l0_4 l0_5 a1 = some r) :
  Calls Try.prog 35 #[.agg #[.int .u8 a0_0, .slice A0_1 l0_1.length c0_1, .slice A0_2 l0_2.length c0_2, .slice A0_3 l0_3.length c0_3, .slice A0_4 l0_4.length c0_4, .slice A0_5 l0_5.length c0_5], .int .i64 a1] w fun e w' => e = .returned (.string r) ∧ Below w.heap.size w w' := by
 have hu25 := Try.underlying25; have HR0_1 := A_ hr0_1; have HC0_1 := A_ hc0_1; clear hr0_1 hc0_1; have HR0_2 := A_ hr0_2; have HC0_2 := A_ hc0_2; clear hr0_2 hc0_2; have HR0_3 := A_ hr0_3; have HC0_3 := A_ hc0_3; clear hr0_3 hc0_3; have HR0_4 := A_ hr0_4; have HC0_4 := A_ hc0_4; clear hr0_4 hc0_4; have HR0_5 := A_ hr0_5; have HC0_5 := A_ hc0_5; clear hr0_5 hc0_5; have HB := A_ (Below.refl w.heap.size w); unfold maquettelaw07_Shape_mapped.f at h; have H := h; clear h; obtain ⟨ji3, hji3⟩ : ∃ j_ : Int, (mn (l0_2.length : Int) 4) = j_ := ⟨_, rfl⟩; (replace H : (if (ji3) = 0 then (some (⟨#[]⟩ : ByteArray)) else (if (Int.tmod a1 3) > 0 then (some (⟨#[]⟩ : ByteArray)) else (if 1 + (Utf8.encode (wrap32 (wrap64 (97 + (Int.tmod (wrap64 (Int.tdiv a1 3)) (ji3)))))).size ≤ 9223372036854775807 then (some ((⟨#[109]⟩ : ByteArray) ++ (Utf8.encode (wrap32 (wrap64 (97 + (Int.tmod (wrap64 (Int.tdiv a1 3)) (ji3)))))))) else (none)))) = some r := by first | (rw [hji3] at H; exact H) | (simp only [hji3] at H ⊢; exact H)); (try (have hji3h : ji3 ≤ 4 := by (rw [← hji3]; unfold mn; (repeat' split) <;> omega))); (try (have hji3g : ji3 ≤ 64 := by omega)); (try (have hji3l : 0 ≤ ji3 := by (rw [← hji3]; unfold mn; (repeat' split) <;> omega))); (try (have hji3m : 0 ≤ ji3 := by omega)); have hji3_ : (if 4 < (l0_2.length : Int) then 4 else (l0_2.length : Int)) = ji3 := hji3; by_cases c4 : (ji3) = 0
 ·rw [if_pos c4] at H
  have c4b0 : ((ji3) == 0) = true := beq_iff_eq.mpr c4; have c4b1 : ((ji3) != 0) = false := bne_eq_false_iff_eq.mpr c4; clear c4; obtain rfl := Option.some.inj H; go_enter Try.func35, Try.ntmps35; go_wp2_with (first | ((with_reducible refine gate_dst (N := 2) rfl ?_); refine bx 2 (cs := #[.int .u8 a0_0, .slice A0_1 l0_1.length c0_1, .slice A0_2 l0_2.length c0_2, .slice A0_3 l0_3.length c0_3, .slice A0_4 l0_4.length c0_4, .slice A0_5 l0_5.length c0_5]) (t := 25) (h := ?_); intro gb130 hg w5 hbox hb; have BK130 := A_ hbox; have GW130 : Aside0 (w.heap.size ≤ gb130) := bge hg; replace HB := bst hb; clear hb hbox hg; have hcz6 := bc6 BK130)); go_ret; exact ⟨by first | rfl | (simp [errW_none, errW_some] <;> rfl) | (simp only [← hji3]; first | rfl | (simp [errW_none, errW_some] <;> rfl)) | (simp [*, errW_none, errW_some] <;> rfl), bel⟩
 ·rw [if_neg c4] at H
  have c4b0 : ((ji3) == 0) = false := beq_eq_false_iff_ne.mpr c4; have c4b1 : ((ji3) != 0) = true := bne_iff_ne.mpr c4; by_cases c7 : (Int.tmod a1 3) > 0
  ·rw [if_pos c7] at H
   have c7b0 : decide (0 < (Int.tmod a1 3)) = true := decide_eq_true c7; clear c7; obtain rfl := Option.some.inj H; go_enter Try.func35, Try.ntmps35; go_wp2_with (first | ((with_reducible refine gate_dst (N := 2) rfl ?_); refine bx 2 (cs := #[.int .u8 a0_0, .slice A0_1 l0_1.length c0_1, .slice A0_2 l0_2.length c0_2, .slice A0_3 l0_3.length c0_3, .slice A0_4 l0_4.length c0_4, .slice A0_5 l0_5.length c0_5]) (t := 25) (h := ?_); intro gb130 hg w8 hbox hb; have BK130 := A_ hbox; have GW130 : Aside0 (w.heap.size ≤ gb130) := bge hg; replace HB := bst hb; clear hb hbox hg; have hcz9 := bc6 BK130)); go_ret; exact ⟨by first | rfl | (simp [errW_none, errW_some] <;> rfl) | (simp only [← hji3]; first | rfl | (simp [errW_none, errW_some] <;> rfl)) | (simp [*, errW_none, errW_some] <;> rfl), bel⟩
  ·rw [if_neg c7] at H
   have c7b0 : decide (0 < (Int.tmod a1 3)) = false := decide_eq_false c7; clear c7; by_cases c10 : 1 + (Utf8.encode (wrap32 (wrap64 (97 + (Int.tmod (wrap64 (Int.tdiv a1 3)) (ji3)))))).size ≤ 9223372036854775807
   ·rw [if_pos c10] at H
    have c10b0 := eq_true c10; have c10b1 := decide_eq_true c10; (try have c10b2 := eq_false (Nat.not_lt.2 c10)); obtain rfl := Option.some.inj H; go_enter Try.func35, Try.ntmps35; go_wp2_with (first | ((with_reducible refine gate_dst (N := 2) rfl ?_); refine bx 2 (cs := #[.int .u8 a0_0, .slice A0_1 l0_1.length c0_1, .slice A0_2 l0_2.length c0_2, .slice A0_3 l0_3.length c0_3, .slice A0_4 l0_4.length c0_4, .slice A0_5 l0_5.length c0_5]) (t := 25) (h := ?_); intro gb130 hg w11 hbox hb; have BK130 := A_ hbox; have GW130 : Aside0 (w.heap.size ≤ gb130) := bge hg; replace HB := bst hb; clear hb hbox hg; have hcz12 := bc6 BK130)); go_ret; exact ⟨by first | rfl | (simp [errW_none, errW_some] <;> rfl) | (simp only [← hji3]; first | rfl | (simp [errW_none, errW_some] <;> rfl)) | (simp [*, errW_none, errW_some] <;> rfl), bel⟩
   ·rw [if_neg c10] at H
    exact absurd H (by simp)
end Go.Proofs.Ytcagkdgpoijkoaa.PLm
end
