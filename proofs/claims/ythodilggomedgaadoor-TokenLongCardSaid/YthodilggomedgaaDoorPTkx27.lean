-- Written by wip/xprint.py of this work: the printer of the kit, with contracts of this work beside it, shortened.
import Derived.Test.YthodilggomedgaaDoorShort
import Derived.Test.YthodilggomedgaaDoorPTkx0
import Derived.Test.YthodilggomedgaaDoorPTkx16
import Derived.Test.YthodilggomedgaaDoorPTkx17
import Derived.Test.YthodilggomedgaaDoorJ6
namespace Go.Proofs.YthodilggomedgaaDoor.PTk
open Go.RowKit Go.Proofs.YthodilggomedgaaDoor.Short Go.Proofs.YthodilggomedgaaDoorW.PrintWords Go.Proofs.YthodilggomedgaaDoorW.PrintLast Go.Proofs.YthodilggomedgaaDoorW.PrintMore
attribute [local go_sem] max2_int min2_int max_two min_two max_three min_three max_four min_four   -- for this text's walks alone
set_option linter.unusedVariables false
set_option linter.unusedSimpArgs false

/-! ### maquettelaw06_TokenLong: function 6 -/
def maquettelaw06_TokenLong.l0 : Nat → List Int → Int → Int → Option (Bool)
 | 0, _, _, _ => none
 | k + 1, x3, x15, x16 => if x16 < x15 then (if 0 ≤ x16 then (if x16 < (x3.length : Int) then (maquettelaw06_TokenLong.l0 k (x3.set (x16 : Int).toNat 59) x15 (wrap64 (x16 + 1))) else (none)) else (none)) else ((token_Cut.f k (strOfNums x3)).bind fun bt233 => (if (x3.length : Int) > 65536 then ((api_Number.f bt233.2).bind fun t237 => (if t237 = 7 then ((api_Place.f bt233.2).bind fun t238 => (if t238 = 0 then (some ((bt233.1.length : Int) == 0)) else (some false))) else (some false))) else (if bt233.2.isNone = true then (some ((bt233.1.length : Int) == (wrap64 ((x3.length : Int) + 1)))) else (some false))))
def maquettelaw06_TokenLong.f (k : Nat) (a0 : Int) : Option (Bool) := (maquettelaw06_awake.f k).bind fun t228 => (if t228 = true then (if 0 ≤ (wrap64 (65530 + (wrap64 (Int.tmod a0 12)))) then (if (wrap64 (65530 + (wrap64 (Int.tmod a0 12))) : Int).toNat ≤ 281474976710656 then ((some (List.replicate (wrap64 (65530 + (wrap64 (Int.tmod a0 12))) : Int).toNat 0 : List Int)).bind fun y229 => (maquettelaw06_TokenLong.l0 k y229 (y229.length : Int) 0)) else (none)) else (none)) else (some false))
theorem maquettelaw06_TokenLong.mono_l : ∀ k, (∀ y0 y1 y2, LeO (maquettelaw06_TokenLong.l0 k y0 y1 y2) (maquettelaw06_TokenLong.l0 (k + 1) y0 y1 y2))
 | 0 => fun _ _ _ r h => by simp [maquettelaw06_TokenLong.l0] at h
 | k + 1 => by
  have ih0 := maquettelaw06_TokenLong.mono_l k
  ·intro y0 y1 y2
   unfold maquettelaw06_TokenLong.l0
   repeat' first
   | (with_reducible exact ih0 _ _ _)
   | (with_reducible exact maquettelaw06_awake.mono _)
   | (with_reducible exact token_Cut.mono _ _)
   | (with_reducible exact LeO.refl _)
   | (with_reducible exact LeO.none _)
   | (with_reducible refine LeO.ite ?_ ?_)
   | (with_reducible refine LeO.bind ?_ (fun _ => ?_))
   | exact ih0 _ _ _
   | exact maquettelaw06_awake.mono _
   | exact token_Cut.mono _ _
   | exact LeO.none _
   | refine LeO.ite ?_ ?_
   | refine LeO.bind ?_ (fun _ => ?_)
theorem maquettelaw06_TokenLong.mono : ∀ a0 k, LeO (maquettelaw06_TokenLong.f k a0) (maquettelaw06_TokenLong.f (k + 1) a0) := by
 intro a0 k
 have ih0 := maquettelaw06_TokenLong.mono_l k
 unfold maquettelaw06_TokenLong.f
 repeat' first
   | (with_reducible exact ih0 _ _ _)
   | (with_reducible exact maquettelaw06_awake.mono _)
   | (with_reducible exact token_Cut.mono _ _)
   | (with_reducible exact LeO.refl _)
   | (with_reducible exact LeO.none _)
   | (with_reducible refine LeO.ite ?_ ?_)
   | (with_reducible refine LeO.bind ?_ (fun _ => ?_))
   | exact ih0 _ _ _
   | exact maquettelaw06_awake.mono _
   | exact token_Cut.mono _ _
   | exact LeO.none _
   | refine LeO.ite ?_ ?_
   | refine LeO.bind ?_ (fun _ => ?_)
set_option maxHeartbeats 8000000 in
set_option maxRecDepth 100000 in
theorem maquettelaw06_TokenLong.calls (k : Nat) (a0 : Int) (r : Bool) (w : World) (h : maquettelaw06_TokenLong.f k a0 = some r) (hInv : Go.Proofs.YthodilggomedgaaDoor.InvE.Inv w) :
  Calls Tryd.prog 6 #[.int .u8 a0] w fun e w' => e = .returned (.bool r) ∧ Below w.heap.size w w' := by
 have hu25 := Tryd.underlying25
 have HB := Aside0.mk (Below.refl w.heap.size w)
 have H : ((maquettelaw06_awake.f k).bind fun t228 => (if t228 = true then (if 0 ≤ (wrap64 (65530 + (wrap64 (Int.tmod a0 12)))) then (if (wrap64 (65530 + (wrap64 (Int.tmod a0 12))) : Int).toNat ≤ 281474976710656 then ((some (List.replicate (wrap64 (65530 + (wrap64 (Int.tmod a0 12))) : Int).toNat 0 : List Int)).bind fun y229 => (maquettelaw06_TokenLong.l0 k y229 (y229.length : Int) 0)) else (none)) else (none)) else (some false))) = some r := h
 clear h
 replace H := Option.bind_eq_some_iff.mp H
 obtain ⟨t228, A20, H⟩ := H
 replace H : (if t228 = true then (if 0 ≤ (wrap64 (65530 + (wrap64 (Int.tmod a0 12)))) then (if (wrap64 (65530 + (wrap64 (Int.tmod a0 12))) : Int).toNat ≤ 281474976710656 then ((some (List.replicate (wrap64 (65530 + (wrap64 (Int.tmod a0 12))) : Int).toNat 0 : List Int)).bind fun y229 => (maquettelaw06_TokenLong.l0 k y229 (y229.length : Int) 0)) else (none)) else (none)) else (some false)) = some r := H
 have A2 := Aside0.mk A20
 clear A20
 by_cases c3 : t228 = true
 ·subst c3
  have H1 : (if 0 ≤ (wrap64 (65530 + (wrap64 (Int.tmod a0 12)))) then (if (wrap64 (65530 + (wrap64 (Int.tmod a0 12))) : Int).toNat ≤ 281474976710656 then ((some (List.replicate (wrap64 (65530 + (wrap64 (Int.tmod a0 12))) : Int).toNat 0 : List Int)).bind fun y229 => (maquettelaw06_TokenLong.l0 k y229 (y229.length : Int) 0)) else (none)) else (none)) = some r := by rw [if_pos rfl] at H; exact H
  clear H
  have H := H1
  clear H1
  obtain ⟨ji4, hji4⟩ : ∃ j_ : Int, (wrap64 (65530 + (wrap64 (Int.tmod a0 12)))) = j_ := ⟨_, rfl⟩
  replace H : (if 0 ≤ (ji4) then (if (ji4 : Int).toNat ≤ 281474976710656 then ((some (List.replicate (ji4 : Int).toNat 0 : List Int)).bind fun y229 => (maquettelaw06_TokenLong.l0 k y229 (y229.length : Int) 0)) else (none)) else (none)) = some r := by first | (rw [hji4] at H; exact H) | (simp only [hji4] at H ⊢; exact H)
  (try rw [hji4] at A2)
  have hji4w : (IntKind.i64.wrap (65530 + (wrap64 (Int.tmod a0 12)))) = ji4 := (i64_w _).trans hji4
  by_cases c5 : 0 ≤ (ji4)
  ·rw [if_pos c5] at H
   have c5b0 := eq_true c5
   have c5b1 := decide_eq_true c5
   clear c5
   by_cases c6 : (ji4 : Int).toNat ≤ 281474976710656
   ·rw [if_pos c6] at H
    have c6b0 := eq_true c6
    have c6b1 := decide_eq_true c6
    clear c6
    obtain ⟨y229, hy229⟩ : ∃ y_ : List Int, y_ = (List.replicate (ji4 : Int).toNat 0) := ⟨_, rfl⟩
    replace H : (maquettelaw06_TokenLong.l0 k y229 (y229.length : Int) 0) = some r := by first | (rw [hy229]; with_reducible exact H) | (have H2_ := (Option.bind_some _ _).symm.trans H; rw [hy229]; with_reducible exact H2_) | (have H2_ := (Option.bind_some _ _).symm.trans H; with_reducible exact H2_) | with_reducible exact H | (rw [hy229]; exact H) | exact H
    have Ny229 := Aside0.mk hy229
    clear hy229
    have H' := Aside0.mk H
    clear H
    go_enter Tryd.func6, Tryd.ntmps6
    go_wp2_with (first | ((with_reducible refine gate_dst (N := 7) rfl ?_); refine gl (some 7) Tryd.func8 #[] ?_; (with_reducible refine (maquettelaw06_awake.calls k  true _ A2.out (Go.Proofs.YthodilggomedgaaDoor.InvE.ivb hInv)).mono ?_); rintro e w7 ⟨rfl, hb⟩; refine ⟨_, rfl, ?_⟩; replace HB := bst hb; (try clear hb); (try clear hb2); (try clear hk); (try clear hi)) | ((with_reducible refine gate_dst (N := 13) rfl ?_); (try (refine gate_guard (by rfl) ?_; dsimp only)); refine Kd.R_make (Kd.int .u8) _ 5 rfl (N := 13) rfl 41 _ _ rfl ji4 rfl rfl Tryd.underlying41 (.int .u8 0) 1 info5 rfl (by decide) (by omega) 0 (ok := fun _ => True) (okp := fun _ => True) rfl (fun _ hk => hk) trivial (of_decide_eq_true (by first | (with_reducible assumption) | assumption)) (Nat.le_trans (Nat.mul_le_mul_right _ (of_decide_eq_true (by first | (with_reducible assumption) | assumption) : ji4.toNat ≤ 281474976710656)) (by omega)) (Below.refl _ _) (Nat.le_refl _) ?_; intro v230 w8 ho9 hb hg_ hnew_; clear hg_ hnew_; (first | rw [← Ny229.out] at ho9 | (simp only [Int.reduceToNat] at ho9; rw [← Ny229.out] at ho9)); have HO231 := Aside0.mk (Kd.R_lower ho9 (below_size bel)); replace HB := bst hb; clear hb ho9; obtain ⟨Ao10, co10, eo10⟩ := Kd.R_slice HO231.out; subst eo10))
    go_loopg [16] k (fun kq v16 w' => ∃ (x3_1 : List Int) (x16_1 : Int), v16 = .int .i64 x16_1 ∧ Aside0 (maquettelaw06_TokenLong.l0 kq x3_1 (y229.length : Int) x16_1 = some r) ∧ Aside0 (kq ≤ k) ∧ Aside0 (Kd.R (Kd.int .u8) 5 w' w.heap.size (fun _ => True) (.slice Ao10 y229.length co10) x3_1) ∧ Aside0 (Below w.heap.size w w'))
    case atStart => exact ⟨(y229), (0), (by first | rfl | (simp; done) | (simp [*]; done)), H', ⟨Nat.le_refl _⟩, ⟨by (with_reducible repeat (first | apply Kd.R_alloc | apply Kd.R_drewN | apply Kd.R_drew)); exact HO231.out⟩, ⟨by repeat (first | (with_reducible first | exact HB.out | apply below_alloc | apply pw_below_drewN | apply below_drew1) | exact HB.out)⟩⟩
    case round =>
     clear H'
     try clear p2
     try clear c3
     try clear c5
     try clear c5b0
     try clear c5b1
     try clear c6
     try clear c6b0
     try clear c6b1
     try clear p6
     try clear c8
     obtain ⟨x3_1, x16_1, rfl, HA, HK1, HO_3, HB⟩ := hrel
     have hl3_1 := (Kd.R_reads' HO_3.out).1
     rw [hl3_1] at HO_3
     (try simp only [hl3_1])
     cases gk with
     | zero => exact absurd HA.out (by simp [maquettelaw06_TokenLong.l0])
     | succ k1 =>
      have H := HA.out
      clear HA
      simp only [maquettelaw06_TokenLong.l0] at H
      by_cases c11 : x16_1 < (y229.length : Int)
      ·rw [if_pos c11] at H
       have c11b0 := decide_eq_true c11
       clear c11
       by_cases c12 : 0 ≤ x16_1
       ·rw [if_pos c12] at H
        have c12b0 := decide_eq_true c12
        clear c12
        by_cases c13 : x16_1 < (x3_1.length : Int)
        ·rw [if_pos c13] at H
         have c13b0 := decide_eq_true c13
         clear c13
         obtain ⟨y232, hy232⟩ : ∃ y_ : List Int, y_ = (x3_1.set (x16_1 : Int).toNat 59) := ⟨_, rfl⟩
         replace H : (maquettelaw06_TokenLong.l0 k1 y232 (y229.length : Int) (wrap64 (x16_1 + 1))) = some r := by first | (rw [hy232]; with_reducible exact H) | (have H2_ := (Option.bind_some _ _).symm.trans H; rw [hy232]; with_reducible exact H2_) | (have H2_ := (Option.bind_some _ _).symm.trans H; with_reducible exact H2_) | with_reducible exact H | (rw [hy232]; exact H) | exact H
         have Ny232 := Aside0.mk hy232
         clear hy232
         have H' := Aside0.mk H
         clear H
         have p14 : 0 ≤ (x16_1 : Int) := of_decide_eq_true (by first | (with_reducible assumption) | assumption)
         have q14 : (x16_1 : Int) < ((x3_1.length : Int) : Int) := of_decide_eq_true (by first | (with_reducible assumption) | assumption)
         obtain ⟨go14, co14, eo14, gb14, gl14, cl14, HG14⟩ := Kd.R_form HO_3.out (by omega)
         (first | cases eo14 | (injection eo14 with ea_ en_ ec_; (first | subst ea_ | (injection ea_ with ea_; subst ea_)); subst ec_; clear en_))
         have GB14 := Aside0.mk gb14
         have GG14 := Aside0.mk HG14
         clear gb14 gl14 HG14
         obtain ⟨hx14_0, hf14_0⟩ := Kd.R_celln 0 HO_3.out (x16_1 : Int) p14 q14
         replace p14 := eq_true p14
         replace q14 := eq_true q14
         have HP15 := Kd.R_putg HO_3.out (x16_1 : Int) 59
         go_wp2_with (first | ((with_reducible refine gate_store (t := 5) (p := 21) rfl ?_); refine store_event (t := 5) (p := 21) (v := ?vo_w16) (w1 := (wr.setCell ⟨go14, (x16_1 : Int).toNat, none⟩ (.int .u8 59))) ?hg ?ho ?hn ?hr ?_; (case ho => rfl); (case hg => rfl); (case hn => rfl); (case hr => first | (go_simp; done) | (go_simp; rfl)); intro w16 hw; have hg : wr.grownBy w16 (some go14) := (by rw [hw]; exact HP15.2); have hp_ : Kd.R (Kd.int .u8) 5 w16 w.heap.size (fun _ => True) (.slice (some ⟨go14, 0, none⟩) x3_1.length co10) y232 := (by rw [hw, Ny232.out]; exact HP15.1); clear HP15; replace HO_3 := Aside0.mk (hp_); replace HB := Aside0.mk ((by rw [hw]; exact below_set (HB.out) GB14.out : Below w.heap.size w w16)); clear hg hw hp_))
         (try simp only [← hl3_1])
         go_roundg k1
         case measure => have := HK1.out; omega
         case rel => exact ⟨(y232), (wrap64 (x16_1 + 1)), (by first | rfl | (simp; done) | (simp [*]; done)), H', ⟨by have := HK1.out; omega⟩, ⟨by (try simp only [hl3_1]); (with_reducible repeat (first | apply Kd.R_alloc | apply Kd.R_drewN | apply Kd.R_drew)); exact HO_3.out⟩, ⟨by repeat (first | (with_reducible first | exact HB.out | apply below_alloc | apply pw_below_drewN | apply below_drew1) | exact HB.out)⟩⟩
        ·rw [if_neg c13] at H
         exact absurd H (by simp)
       ·rw [if_neg c12] at H
        exact absurd H (by simp)
      ·rw [if_neg c11] at H
       have c11b0 := decide_eq_false c11
       (try rw [hl3_1] at c11b0)
       clear c11
       replace H := Option.bind_eq_some_iff.mp H
       obtain ⟨⟨t233, t234⟩, A170, H⟩ := H
       replace H : (if (x3_1.length : Int) > 65536 then ((api_Number.f t234).bind fun t237 => (if t237 = 7 then ((api_Place.f t234).bind fun t238 => (if t238 = 0 then (some ((t233.length : Int) == 0)) else (some false))) else (some false))) else (if t234.isNone = true then (some ((t233.length : Int) == (wrap64 ((x3_1.length : Int) + 1)))) else (some false))) = some r := H
       have A17 := Aside0.mk A170
       clear A170
       by_cases c18 : (x3_1.length : Int) > 65536
       ·rw [if_pos c18] at H
        have c18b0 : decide (65536 < (x3_1.length : Int)) = true := decide_eq_true c18
        have c18b1 : decide (65536 < x3_1.length) = true := decide_eq_true (by omega)
        clear c18
        replace H := Option.bind_eq_some_iff.mp H
        obtain ⟨t237, A190, H⟩ := H
        replace H : (if t237 = 7 then ((api_Place.f t234).bind fun t238 => (if t238 = 0 then (some ((t233.length : Int) == 0)) else (some false))) else (some false)) = some r := H
        have A19 := Aside0.mk A190
        clear A190
        by_cases c20 : t237 = 7
        ·rw [if_pos c20] at H
         have c20b0 : (t237 == 7) = true := beq_iff_eq.mpr c20
         have c20b1 : (t237 != 7) = false := bne_eq_false_iff_eq.mpr c20
         clear c20
         replace H := Option.bind_eq_some_iff.mp H
         obtain ⟨t238, A210, H⟩ := H
         replace H : (if t238 = 0 then (some ((t233.length : Int) == 0)) else (some false)) = some r := H
         have A21 := Aside0.mk A210
         clear A210
         by_cases c22 : t238 = 0
         ·rw [if_pos c22] at H
          have c22b0 : (t238 == 0) = true := beq_iff_eq.mpr c22
          have c22b1 : (t238 != 0) = false := bne_eq_false_iff_eq.mpr c22
          clear c22
          obtain rfl := Option.some.inj H
          have hcv23 := own_string (P := Tryd.prog) Tryd.underlying41 Tryd.underlying5 Tryd.underlying9 (Kd.own_of_R HO_3.out)
          go_wp2_with (first | ((with_reducible refine gate_dst (N := 26) rfl ?_); refine gl (some 26) Tryd.func9 #[.string (strOfNums x3_1)] ?_; (with_reducible refine (token_Cut.calls k1 (strOfNums x3_1) t233 t234 _ A17.out (Go.Proofs.YthodilggomedgaaDoor.InvE.ivb hInv)).mono ?_); rintro e w24 ⟨v235, rfl, ho0, hb⟩; refine ⟨_, rfl, ?_⟩; have HO236 := Aside0.mk (Kd.R_lower ho0 (below_size bel)); replace HO_3 := Aside0.mk (Kd.R_below (kR HO_3) hb); replace HB := bst hb; (try clear hb); (try clear hb2); (try clear hk); (try clear hi); (try clear ho0); (try simp only [errW_none, errW_some]); have CA19 := fun W hI_ => api_Number.calls t234 t237 W A19.out hI_; try simp only [errW_none, errW_some] at CA19) | (go_at_call 12; (with_reducible refine (CA19 _ (Go.Proofs.YthodilggomedgaaDoor.InvE.ivb hInv)).mono ?_); rintro e w25 ⟨rfl, hb⟩; replace HO_3 := Aside0.mk (Kd.R_below (kR HO_3) hb); replace HO236 := Aside0.mk (Kd.R_below (kR HO236) hb); replace HB := bst hb; (try clear hb); (try clear hb2); (try clear hk); (try clear hi); have CA21 := fun W hI_ => api_Place.calls t234 t238 W A21.out hI_; try simp only [errW_none, errW_some] at CA21) | (go_at_call 10; (with_reducible refine (CA21 _ (Go.Proofs.YthodilggomedgaaDoor.InvE.ivb hInv)).mono ?_); rintro e w26 ⟨rfl, hb⟩; replace HO_3 := Aside0.mk (Kd.R_below (kR HO_3) hb); replace HO236 := Aside0.mk (Kd.R_below (kR HO236) hb); replace HB := bst hb; (try clear hb); (try clear hb2); (try clear hk); (try clear hi); obtain ⟨Ao27, co27, eo27⟩ := Kd.R_slice HO236.out; subst eo27))
          go_ret
          exact ⟨by first | rfl | (simp [errW_none, errW_some] <;> rfl) | (simp only [← hji4]; first | rfl | (simp [errW_none, errW_some] <;> rfl)) | (simp [*, errW_none, errW_some] <;> rfl), by repeat (first | (with_reducible first | exact HB.out | apply below_alloc | apply pw_below_drewN | apply below_drew1) | exact HB.out)⟩
         ·rw [if_neg c22] at H
          have c22b0 : (t238 == 0) = false := beq_eq_false_iff_ne.mpr c22
          have c22b1 : (t238 != 0) = true := bne_iff_ne.mpr c22
          obtain rfl := Option.some.inj H
          have hcv28 := own_string (P := Tryd.prog) Tryd.underlying41 Tryd.underlying5 Tryd.underlying9 (Kd.own_of_R HO_3.out)
          go_wp2_with (first | ((with_reducible refine gate_dst (N := 26) rfl ?_); refine gl (some 26) Tryd.func9 #[.string (strOfNums x3_1)] ?_; (with_reducible refine (token_Cut.calls k1 (strOfNums x3_1) t233 t234 _ A17.out (Go.Proofs.YthodilggomedgaaDoor.InvE.ivb hInv)).mono ?_); rintro e w29 ⟨v235, rfl, ho0, hb⟩; refine ⟨_, rfl, ?_⟩; have HO236 := Aside0.mk (Kd.R_lower ho0 (below_size bel)); replace HO_3 := Aside0.mk (Kd.R_below (kR HO_3) hb); replace HB := bst hb; (try clear hb); (try clear hb2); (try clear hk); (try clear hi); (try clear ho0); (try simp only [errW_none, errW_some]); have CA19 := fun W hI_ => api_Number.calls t234 t237 W A19.out hI_; try simp only [errW_none, errW_some] at CA19) | (go_at_call 12; (with_reducible refine (CA19 _ (Go.Proofs.YthodilggomedgaaDoor.InvE.ivb hInv)).mono ?_); rintro e w30 ⟨rfl, hb⟩; replace HO_3 := Aside0.mk (Kd.R_below (kR HO_3) hb); replace HO236 := Aside0.mk (Kd.R_below (kR HO236) hb); replace HB := bst hb; (try clear hb); (try clear hb2); (try clear hk); (try clear hi); have CA21 := fun W hI_ => api_Place.calls t234 t238 W A21.out hI_; try simp only [errW_none, errW_some] at CA21) | (go_at_call 10; (with_reducible refine (CA21 _ (Go.Proofs.YthodilggomedgaaDoor.InvE.ivb hInv)).mono ?_); rintro e w31 ⟨rfl, hb⟩; replace HO_3 := Aside0.mk (Kd.R_below (kR HO_3) hb); replace HO236 := Aside0.mk (Kd.R_below (kR HO236) hb); replace HB := bst hb; (try clear hb); (try clear hb2); (try clear hk); (try clear hi)))
          go_ret
          exact ⟨by first | rfl | (simp [errW_none, errW_some] <;> rfl) | (simp only [← hji4]; first | rfl | (simp [errW_none, errW_some] <;> rfl)) | (simp [*, errW_none, errW_some] <;> rfl), by repeat (first | (with_reducible first | exact HB.out | apply below_alloc | apply pw_below_drewN | apply below_drew1) | exact HB.out)⟩
        ·rw [if_neg c20] at H
         have c20b0 : (t237 == 7) = false := beq_eq_false_iff_ne.mpr c20
         have c20b1 : (t237 != 7) = true := bne_iff_ne.mpr c20
         obtain rfl := Option.some.inj H
         have hcv32 := own_string (P := Tryd.prog) Tryd.underlying41 Tryd.underlying5 Tryd.underlying9 (Kd.own_of_R HO_3.out)
         go_wp2_with (first | ((with_reducible refine gate_dst (N := 26) rfl ?_); refine gl (some 26) Tryd.func9 #[.string (strOfNums x3_1)] ?_; (with_reducible refine (token_Cut.calls k1 (strOfNums x3_1) t233 t234 _ A17.out (Go.Proofs.YthodilggomedgaaDoor.InvE.ivb hInv)).mono ?_); rintro e w33 ⟨v235, rfl, ho0, hb⟩; refine ⟨_, rfl, ?_⟩; have HO236 := Aside0.mk (Kd.R_lower ho0 (below_size bel)); replace HO_3 := Aside0.mk (Kd.R_below (kR HO_3) hb); replace HB := bst hb; (try clear hb); (try clear hb2); (try clear hk); (try clear hi); (try clear ho0); (try simp only [errW_none, errW_some]); have CA19 := fun W hI_ => api_Number.calls t234 t237 W A19.out hI_; try simp only [errW_none, errW_some] at CA19) | (go_at_call 12; (with_reducible refine (CA19 _ (Go.Proofs.YthodilggomedgaaDoor.InvE.ivb hInv)).mono ?_); rintro e w34 ⟨rfl, hb⟩; replace HO_3 := Aside0.mk (Kd.R_below (kR HO_3) hb); replace HO236 := Aside0.mk (Kd.R_below (kR HO236) hb); replace HB := bst hb; (try clear hb); (try clear hb2); (try clear hk); (try clear hi)))
         go_ret
         exact ⟨by first | rfl | (simp [errW_none, errW_some] <;> rfl) | (simp only [← hji4]; first | rfl | (simp [errW_none, errW_some] <;> rfl)) | (simp [*, errW_none, errW_some] <;> rfl), by repeat (first | (with_reducible first | exact HB.out | apply below_alloc | apply pw_below_drewN | apply below_drew1) | exact HB.out)⟩
       ·rw [if_neg c18] at H
        have c18b0 : decide (65536 < (x3_1.length : Int)) = false := decide_eq_false c18
        have c18b1 : decide (65536 < x3_1.length) = false := decide_eq_false (by omega)
        clear c18
        rcases t234 with _ | q239
        ·have H1 : (some ((t233.length : Int) == (wrap64 ((x3_1.length : Int) + 1)))) = some r := by rw [if_pos (show (none : Option Int).isNone = true by rfl)] at H; exact H
         clear H
         have H := H1
         clear H1
         try simp only [errW_none, errW_some]
         obtain rfl := Option.some.inj H
         have hcv35 := own_string (P := Tryd.prog) Tryd.underlying41 Tryd.underlying5 Tryd.underlying9 (Kd.own_of_R HO_3.out)
         go_wp2_with (first | ((with_reducible refine gate_dst (N := 26) rfl ?_); refine gl (some 26) Tryd.func9 #[.string (strOfNums x3_1)] ?_; (with_reducible refine (token_Cut.calls k1 (strOfNums x3_1) t233 none _ A17.out (Go.Proofs.YthodilggomedgaaDoor.InvE.ivb hInv)).mono ?_); rintro e w36 ⟨v235, rfl, ho0, hb⟩; refine ⟨_, rfl, ?_⟩; have HO236 := Aside0.mk (Kd.R_lower ho0 (below_size bel)); replace HO_3 := Aside0.mk (Kd.R_below (kR HO_3) hb); replace HB := bst hb; (try clear hb); (try clear hb2); (try clear hk); (try clear hi); (try clear ho0); (try simp only [errW_none, errW_some]); obtain ⟨Ao37, co37, eo37⟩ := Kd.R_slice HO236.out; subst eo37))
         go_ret
         exact ⟨by first | rfl | (simp [errW_none, errW_some] <;> rfl) | (simp only [← hji4]; first | rfl | (simp [errW_none, errW_some] <;> rfl)) | (simp [*, errW_none, errW_some] <;> rfl), by repeat (first | (with_reducible first | exact HB.out | apply below_alloc | apply pw_below_drewN | apply below_drew1) | exact HB.out)⟩
        ·have H1 : (some false) = some r := by rw [if_neg (show ¬ (some q239).isNone = true by simp)] at H; exact H
         clear H
         have H := H1
         clear H1
         try simp only [errW_none, errW_some]
         obtain rfl := Option.some.inj H
         have hcv38 := own_string (P := Tryd.prog) Tryd.underlying41 Tryd.underlying5 Tryd.underlying9 (Kd.own_of_R HO_3.out)
         go_wp2_with (first | ((with_reducible refine gate_dst (N := 26) rfl ?_); refine gl (some 26) Tryd.func9 #[.string (strOfNums x3_1)] ?_; (with_reducible refine (token_Cut.calls k1 (strOfNums x3_1) t233 (some q239) _ A17.out (Go.Proofs.YthodilggomedgaaDoor.InvE.ivb hInv)).mono ?_); rintro e w39 ⟨v235, rfl, ho0, hb⟩; refine ⟨_, rfl, ?_⟩; have HO236 := Aside0.mk (Kd.R_lower ho0 (below_size bel)); replace HO_3 := Aside0.mk (Kd.R_below (kR HO_3) hb); replace HB := bst hb; (try clear hb); (try clear hb2); (try clear hk); (try clear hi); (try clear ho0); (try simp only [errW_none, errW_some])))
         go_ret
         exact ⟨by first | rfl | (simp [errW_none, errW_some] <;> rfl) | (simp only [← hji4]; first | rfl | (simp [errW_none, errW_some] <;> rfl)) | (simp [*, errW_none, errW_some] <;> rfl), by repeat (first | (with_reducible first | exact HB.out | apply below_alloc | apply pw_below_drewN | apply below_drew1) | exact HB.out)⟩
   ·rw [if_neg c6] at H
    exact absurd H (by simp)
  ·rw [if_neg c5] at H
   exact absurd H (by simp)
 ·replace c3 := Bool.eq_false_iff.mpr c3
  subst c3
  have H1 : (some false) = some r := by rw [if_neg (show ¬ (false = true) by decide)] at H; exact H
  clear H
  have H := H1
  clear H1
  obtain rfl := Option.some.inj H
  go_enter Tryd.func6, Tryd.ntmps6
  go_wp2_with (first | ((with_reducible refine gate_dst (N := 7) rfl ?_); refine gl (some 7) Tryd.func8 #[] ?_; (with_reducible refine (maquettelaw06_awake.calls k  false _ A2.out (Go.Proofs.YthodilggomedgaaDoor.InvE.ivb hInv)).mono ?_); rintro e w40 ⟨rfl, hb⟩; refine ⟨_, rfl, ?_⟩; replace HB := bst hb; (try clear hb); (try clear hb2); (try clear hk); (try clear hi)))
  go_ret
  exact ⟨by first | rfl | (simp [errW_none, errW_some] <;> rfl) | (simp [*, errW_none, errW_some] <;> rfl), by repeat (first | (with_reducible first | exact HB.out | apply below_alloc | apply pw_below_drewN | apply below_drew1) | exact HB.out)⟩

end Go.Proofs.YthodilggomedgaaDoor.PTk
