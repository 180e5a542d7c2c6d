-- Written by wip/xprint.py of this work: the printer of the kit, with contracts of this work beside it, shortened.
import Derived.Test.YthodilggomedgaaDoorShort
import Derived.Test.YthodilggomedgaaDoorPTkx0
import Derived.Test.YthodilggomedgaaDoorPTkx16
import Derived.Test.YthodilggomedgaaDoorPTkx17
import Derived.Test.YthodilggomedgaaDoorJ5
import Derived.Test.YthodilggomedgaaDoorPTkx23
import Derived.Test.YthodilggomedgaaDoorPTkx25
namespace Go.Proofs.YthodilggomedgaaDoor.PTk
open Go.RowKit Go.Proofs.YthodilggomedgaaDoor.Short Go.Proofs.YthodilggomedgaaDoorW.PrintWords Go.Proofs.YthodilggomedgaaDoorW.PrintLast Go.Proofs.YthodilggomedgaaDoorW.PrintMore
attribute [local go_sem] max2_int min2_int max_two min_two max_three min_three max_four min_four   -- for this text's walks alone
set_option linter.unusedVariables false
set_option linter.unusedSimpArgs false

/-! ### maquettelaw06_TokenCut: function 5 -/
def maquettelaw06_TokenCut.f (k : Nat) (a0 : ByteArray) : Option (Bool) := (maquettelaw06_awake.f k).bind fun t215 => (if t215 = true then (if (a0.size : Int) > 4000 then (some true) else ((token_Cut.f k a0).bind fun bt216 => ((maquettelaw06_cut.f k a0).bind fun bt220 => (if bt220.2 ≥ 0 then (if (bt216.1.length : Int) = 0 then ((api_Number.f bt216.2).bind fun t224 => (if t224 = 1 then ((api_Place.f bt216.2).bind fun t225 => (some (t225 == bt220.2))) else (some false))) else (some false)) else (if bt216.2.isNone = true then ((maquettelaw06_Same.f k bt216.1 bt220.1).bind fun t227 => (some t227)) else (some false)))))) else (some false))
theorem maquettelaw06_TokenCut.mono : ∀ a0 k, LeO (maquettelaw06_TokenCut.f k a0) (maquettelaw06_TokenCut.f (k + 1) a0) := by
 intro a0 k
 unfold maquettelaw06_TokenCut.f
 repeat' first
   | (with_reducible exact maquettelaw06_Same.mono _ _ _)
   | (with_reducible exact maquettelaw06_awake.mono _)
   | (with_reducible exact maquettelaw06_cut.mono _ _)
   | (with_reducible exact token_Cut.mono _ _)
   | (with_reducible exact LeO.refl _)
   | (with_reducible exact LeO.none _)
   | (with_reducible refine LeO.ite ?_ ?_)
   | (with_reducible refine LeO.bind ?_ (fun _ => ?_))
   | exact maquettelaw06_Same.mono _ _ _
   | exact maquettelaw06_awake.mono _
   | exact maquettelaw06_cut.mono _ _
   | exact token_Cut.mono _ _
   | exact LeO.none _
   | refine LeO.ite ?_ ?_
   | refine LeO.bind ?_ (fun _ => ?_)
set_option maxHeartbeats 8000000 in
set_option maxRecDepth 100000 in
theorem maquettelaw06_TokenCut.calls (k : Nat) (a0 : ByteArray) (r : Bool) (w : World) (h : maquettelaw06_TokenCut.f k a0 = some r) (hInv : Go.Proofs.YthodilggomedgaaDoor.InvE.Inv w) :
  Calls Tryd.prog 5 #[.string a0] w fun e w' => e = .returned (.bool r) ∧ Below w.heap.size w w' := by
 have hu25 := Tryd.underlying25
 have HB := Aside0.mk (Below.refl w.heap.size w)
 have H : ((maquettelaw06_awake.f k).bind fun t215 => (if t215 = true then (if (a0.size : Int) > 4000 then (some true) else ((token_Cut.f k a0).bind fun bt216 => ((maquettelaw06_cut.f k a0).bind fun bt220 => (if bt220.2 ≥ 0 then (if (bt216.1.length : Int) = 0 then ((api_Number.f bt216.2).bind fun t224 => (if t224 = 1 then ((api_Place.f bt216.2).bind fun t225 => (some (t225 == bt220.2))) else (some false))) else (some false)) else (if bt216.2.isNone = true then ((maquettelaw06_Same.f k bt216.1 bt220.1).bind fun t227 => (some t227)) else (some false)))))) else (some false))) = some r := h
 clear h
 replace H := Option.bind_eq_some_iff.mp H
 obtain ⟨t215, A20, H⟩ := H
 replace H : (if t215 = true then (if (a0.size : Int) > 4000 then (some true) else ((token_Cut.f k a0).bind fun bt216 => ((maquettelaw06_cut.f k a0).bind fun bt220 => (if bt220.2 ≥ 0 then (if (bt216.1.length : Int) = 0 then ((api_Number.f bt216.2).bind fun t224 => (if t224 = 1 then ((api_Place.f bt216.2).bind fun t225 => (some (t225 == bt220.2))) else (some false))) else (some false)) else (if bt216.2.isNone = true then ((maquettelaw06_Same.f k bt216.1 bt220.1).bind fun t227 => (some t227)) else (some false)))))) else (some false)) = some r := H
 have A2 := Aside0.mk A20
 clear A20
 by_cases c3 : t215 = true
 ·subst c3
  have H1 : (if (a0.size : Int) > 4000 then (some true) else ((token_Cut.f k a0).bind fun bt216 => ((maquettelaw06_cut.f k a0).bind fun bt220 => (if bt220.2 ≥ 0 then (if (bt216.1.length : Int) = 0 then ((api_Number.f bt216.2).bind fun t224 => (if t224 = 1 then ((api_Place.f bt216.2).bind fun t225 => (some (t225 == bt220.2))) else (some false))) else (some false)) else (if bt216.2.isNone = true then ((maquettelaw06_Same.f k bt216.1 bt220.1).bind fun t227 => (some t227)) else (some false)))))) = some r := by rw [if_pos rfl] at H; exact H
  clear H
  have H := H1
  clear H1
  by_cases c4 : (a0.size : Int) > 4000
  ·rw [if_pos c4] at H
   have c4b0 : decide (4000 < (a0.size : Int)) = true := decide_eq_true c4
   have c4b1 : decide (4000 < a0.size) = true := decide_eq_true (by omega)
   clear c4
   obtain rfl := Option.some.inj H
   go_enter Tryd.func5, Tryd.ntmps5
   go_wp2_with (first | ((with_reducible refine gate_dst (N := 7) rfl ?_); refine gl (some 7) Tryd.func8 #[] ?_; (with_reducible refine (maquettelaw06_awake.calls k  true _ A2.out (Go.Proofs.YthodilggomedgaaDoor.InvE.ivb hInv)).mono ?_); rintro e w5 ⟨rfl, hb⟩; refine ⟨_, rfl, ?_⟩; replace HB := bst hb; (try clear hb); (try clear hb2); (try clear hk); (try clear hi)))
   go_ret
   exact ⟨by first | rfl | (simp [errW_none, errW_some] <;> rfl) | (simp [*, errW_none, errW_some] <;> rfl), by repeat (first | (with_reducible first | exact HB.out | apply below_alloc | apply pw_below_drewN | apply below_drew1) | exact HB.out)⟩
  ·rw [if_neg c4] at H
   have c4b0 : decide (4000 < (a0.size : Int)) = false := decide_eq_false c4
   have c4b1 : decide (4000 < a0.size) = false := decide_eq_false (by omega)
   clear c4
   replace H := Option.bind_eq_some_iff.mp H
   obtain ⟨⟨t216, t217⟩, A60, H⟩ := H
   replace H : ((maquettelaw06_cut.f k a0).bind fun bt220 => (if bt220.2 ≥ 0 then (if (t216.length : Int) = 0 then ((api_Number.f t217).bind fun t224 => (if t224 = 1 then ((api_Place.f t217).bind fun t225 => (some (t225 == bt220.2))) else (some false))) else (some false)) else (if t217.isNone = true then ((maquettelaw06_Same.f k t216 bt220.1).bind fun t227 => (some t227)) else (some false)))) = some r := H
   have A6 := Aside0.mk A60
   clear A60
   replace H := Option.bind_eq_some_iff.mp H
   obtain ⟨⟨t220, t221⟩, A70, H⟩ := H
   replace H : (if t221 ≥ 0 then (if (t216.length : Int) = 0 then ((api_Number.f t217).bind fun t224 => (if t224 = 1 then ((api_Place.f t217).bind fun t225 => (some (t225 == t221))) else (some false))) else (some false)) else (if t217.isNone = true then ((maquettelaw06_Same.f k t216 t220).bind fun t227 => (some t227)) else (some false))) = some r := H
   have A7 := Aside0.mk A70
   clear A70
   by_cases c8 : t221 ≥ 0
   ·rw [if_pos c8] at H
    have c8b0 : decide (0 ≤ t221) = true := decide_eq_true c8
    clear c8
    by_cases c9 : (t216.length : Int) = 0
    ·rw [if_pos c9] at H
     have c9b0 : ((t216.length : Int) == 0) = true := beq_iff_eq.mpr c9
     have c9b1 : ((t216.length : Int) != 0) = false := bne_eq_false_iff_eq.mpr c9
     clear c9
     replace H := Option.bind_eq_some_iff.mp H
     obtain ⟨t224, A100, H⟩ := H
     replace H : (if t224 = 1 then ((api_Place.f t217).bind fun t225 => (some (t225 == t221))) else (some false)) = some r := H
     have A10 := Aside0.mk A100
     clear A100
     by_cases c11 : t224 = 1
     ·rw [if_pos c11] at H
      have c11b0 : (t224 == 1) = true := beq_iff_eq.mpr c11
      have c11b1 : (t224 != 1) = false := bne_eq_false_iff_eq.mpr c11
      clear c11
      replace H := Option.bind_eq_some_iff.mp H
      obtain ⟨t225, A120, H⟩ := H
      replace H : (some (t225 == t221)) = some r := H
      have A12 := Aside0.mk A120
      clear A120
      obtain rfl := Option.some.inj H
      go_enter Tryd.func5, Tryd.ntmps5
      go_wp2_with (first | ((with_reducible refine gate_dst (N := 7) rfl ?_); refine gl (some 7) Tryd.func8 #[] ?_; (with_reducible refine (maquettelaw06_awake.calls k  true _ A2.out (Go.Proofs.YthodilggomedgaaDoor.InvE.ivb hInv)).mono ?_); rintro e w13 ⟨rfl, hb⟩; refine ⟨_, rfl, ?_⟩; replace HB := bst hb; (try clear hb); (try clear hb2); (try clear hk); (try clear hi)) | ((with_reducible refine gate_dst (N := 14) rfl ?_); refine gl (some 14) Tryd.func9 #[.string a0] ?_; (with_reducible refine (token_Cut.calls k a0 t216 t217 _ A6.out (Go.Proofs.YthodilggomedgaaDoor.InvE.ivb hInv)).mono ?_); rintro e w14 ⟨v218, rfl, ho0, hb⟩; refine ⟨_, rfl, ?_⟩; have HO219 := Aside0.mk (Kd.R_lower ho0 (below_size bel)); replace HB := bst hb; (try clear hb); (try clear hb2); (try clear hk); (try clear hi); (try clear ho0); (try simp only [errW_none, errW_some])) | ((with_reducible refine gate_dst (N := 19) rfl ?_); refine gl (some 19) Tryd.func11 #[.string a0] ?_; (with_reducible refine (maquettelaw06_cut.calls k a0 t220 t221 _ A7.out (Go.Proofs.YthodilggomedgaaDoor.InvE.ivb hInv)).mono ?_); rintro e w15 ⟨v222, rfl, ho0, hb⟩; refine ⟨_, rfl, ?_⟩; have HO223 := Aside0.mk (Kd.R_lower (Kd.R_new' ho0 (Kd.R_lt (kR HO219))) (below_size bel)); replace HO219 := Aside0.mk (Kd.R_elder' (kR HO219) (Kd.R_base ho0) hb); replace HB := bst hb; (try clear hb); (try clear hb2); (try clear hk); (try clear hi); (try clear ho0); obtain ⟨Ao16, co16, eo16⟩ := Kd.R_slice HO219.out; subst eo16; have CA10 := fun W hI_ => api_Number.calls t217 t224 W A10.out hI_; try simp only [errW_none, errW_some] at CA10) | (go_at_call 12; (with_reducible refine (CA10 _ (Go.Proofs.YthodilggomedgaaDoor.InvE.ivb hInv)).mono ?_); rintro e w17 ⟨rfl, hb⟩; replace HO219 := Aside0.mk (Kd.R_below (kR HO219) hb); replace HO223 := Aside0.mk (Kd.R_below (kR HO223) hb); replace HB := bst hb; (try clear hb); (try clear hb2); (try clear hk); (try clear hi); have CA12 := fun W hI_ => api_Place.calls t217 t225 W A12.out hI_; try simp only [errW_none, errW_some] at CA12) | (go_at_call 10; (with_reducible refine (CA12 _ (Go.Proofs.YthodilggomedgaaDoor.InvE.ivb hInv)).mono ?_); rintro e w18 ⟨rfl, hb⟩; replace HO219 := Aside0.mk (Kd.R_below (kR HO219) hb); replace HO223 := Aside0.mk (Kd.R_below (kR HO223) hb); replace HB := bst hb; (try clear hb); (try clear hb2); (try clear hk); (try clear hi)))
      go_ret
      exact ⟨by first | rfl | (simp [errW_none, errW_some] <;> rfl) | (simp [*, errW_none, errW_some] <;> rfl), by repeat (first | (with_reducible first | exact HB.out | apply below_alloc | apply pw_below_drewN | apply below_drew1) | exact HB.out)⟩
     ·rw [if_neg c11] at H
      have c11b0 : (t224 == 1) = false := beq_eq_false_iff_ne.mpr c11
      have c11b1 : (t224 != 1) = true := bne_iff_ne.mpr c11
      obtain rfl := Option.some.inj H
      go_enter Tryd.func5, Tryd.ntmps5
      go_wp2_with (first | ((with_reducible refine gate_dst (N := 7) rfl ?_); refine gl (some 7) Tryd.func8 #[] ?_; (with_reducible refine (maquettelaw06_awake.calls k  true _ A2.out (Go.Proofs.YthodilggomedgaaDoor.InvE.ivb hInv)).mono ?_); rintro e w19 ⟨rfl, hb⟩; refine ⟨_, rfl, ?_⟩; replace HB := bst hb; (try clear hb); (try clear hb2); (try clear hk); (try clear hi)) | ((with_reducible refine gate_dst (N := 14) rfl ?_); refine gl (some 14) Tryd.func9 #[.string a0] ?_; (with_reducible refine (token_Cut.calls k a0 t216 t217 _ A6.out (Go.Proofs.YthodilggomedgaaDoor.InvE.ivb hInv)).mono ?_); rintro e w20 ⟨v218, rfl, ho0, hb⟩; refine ⟨_, rfl, ?_⟩; have HO219 := Aside0.mk (Kd.R_lower ho0 (below_size bel)); replace HB := bst hb; (try clear hb); (try clear hb2); (try clear hk); (try clear hi); (try clear ho0); (try simp only [errW_none, errW_some])) | ((with_reducible refine gate_dst (N := 19) rfl ?_); refine gl (some 19) Tryd.func11 #[.string a0] ?_; (with_reducible refine (maquettelaw06_cut.calls k a0 t220 t221 _ A7.out (Go.Proofs.YthodilggomedgaaDoor.InvE.ivb hInv)).mono ?_); rintro e w21 ⟨v222, rfl, ho0, hb⟩; refine ⟨_, rfl, ?_⟩; have HO223 := Aside0.mk (Kd.R_lower (Kd.R_new' ho0 (Kd.R_lt (kR HO219))) (below_size bel)); replace HO219 := Aside0.mk (Kd.R_elder' (kR HO219) (Kd.R_base ho0) hb); replace HB := bst hb; (try clear hb); (try clear hb2); (try clear hk); (try clear hi); (try clear ho0); obtain ⟨Ao22, co22, eo22⟩ := Kd.R_slice HO219.out; subst eo22; have CA10 := fun W hI_ => api_Number.calls t217 t224 W A10.out hI_; try simp only [errW_none, errW_some] at CA10) | (go_at_call 12; (with_reducible refine (CA10 _ (Go.Proofs.YthodilggomedgaaDoor.InvE.ivb hInv)).mono ?_); rintro e w23 ⟨rfl, hb⟩; replace HO219 := Aside0.mk (Kd.R_below (kR HO219) hb); replace HO223 := Aside0.mk (Kd.R_below (kR HO223) hb); replace HB := bst hb; (try clear hb); (try clear hb2); (try clear hk); (try clear hi)))
      go_ret
      exact ⟨by first | rfl | (simp [errW_none, errW_some] <;> rfl) | (simp [*, errW_none, errW_some] <;> rfl), by repeat (first | (with_reducible first | exact HB.out | apply below_alloc | apply pw_below_drewN | apply below_drew1) | exact HB.out)⟩
    ·rw [if_neg c9] at H
     have c9b0 : ((t216.length : Int) == 0) = false := beq_eq_false_iff_ne.mpr c9
     have c9b1 : ((t216.length : Int) != 0) = true := bne_iff_ne.mpr c9
     have c9b2 : ¬ (t216 = []) := fun h_ => c9 (by rw [h_]; rfl)
     obtain rfl := Option.some.inj H
     go_enter Tryd.func5, Tryd.ntmps5
     go_wp2_with (first | ((with_reducible refine gate_dst (N := 7) rfl ?_); refine gl (some 7) Tryd.func8 #[] ?_; (with_reducible refine (maquettelaw06_awake.calls k  true _ A2.out (Go.Proofs.YthodilggomedgaaDoor.InvE.ivb hInv)).mono ?_); rintro e w24 ⟨rfl, hb⟩; refine ⟨_, rfl, ?_⟩; replace HB := bst hb; (try clear hb); (try clear hb2); (try clear hk); (try clear hi)) | ((with_reducible refine gate_dst (N := 14) rfl ?_); refine gl (some 14) Tryd.func9 #[.string a0] ?_; (with_reducible refine (token_Cut.calls k a0 t216 t217 _ A6.out (Go.Proofs.YthodilggomedgaaDoor.InvE.ivb hInv)).mono ?_); rintro e w25 ⟨v218, rfl, ho0, hb⟩; refine ⟨_, rfl, ?_⟩; have HO219 := Aside0.mk (Kd.R_lower ho0 (below_size bel)); replace HB := bst hb; (try clear hb); (try clear hb2); (try clear hk); (try clear hi); (try clear ho0); (try simp only [errW_none, errW_some])) | ((with_reducible refine gate_dst (N := 19) rfl ?_); refine gl (some 19) Tryd.func11 #[.string a0] ?_; (with_reducible refine (maquettelaw06_cut.calls k a0 t220 t221 _ A7.out (Go.Proofs.YthodilggomedgaaDoor.InvE.ivb hInv)).mono ?_); rintro e w26 ⟨v222, rfl, ho0, hb⟩; refine ⟨_, rfl, ?_⟩; have HO223 := Aside0.mk (Kd.R_lower (Kd.R_new' ho0 (Kd.R_lt (kR HO219))) (below_size bel)); replace HO219 := Aside0.mk (Kd.R_elder' (kR HO219) (Kd.R_base ho0) hb); replace HB := bst hb; (try clear hb); (try clear hb2); (try clear hk); (try clear hi); (try clear ho0); obtain ⟨Ao27, co27, eo27⟩ := Kd.R_slice HO219.out; subst eo27))
     go_ret
     exact ⟨by first | rfl | (simp [errW_none, errW_some] <;> rfl) | (simp [*, errW_none, errW_some] <;> rfl), by repeat (first | (with_reducible first | exact HB.out | apply below_alloc | apply pw_below_drewN | apply below_drew1) | exact HB.out)⟩
   ·rw [if_neg c8] at H
    have c8b0 : decide (0 ≤ t221) = false := decide_eq_false c8
    clear c8
    rcases t217 with _ | q226
    ·have H1 : ((maquettelaw06_Same.f k t216 t220).bind fun t227 => (some t227)) = some r := by rw [if_pos (show (none : Option Int).isNone = true by rfl)] at H; exact H
     clear H
     have H := H1
     clear H1
     try simp only [errW_none, errW_some]
     replace H := Option.bind_eq_some_iff.mp H
     obtain ⟨t227, A280, H⟩ := H
     replace H : (some t227) = some r := H
     have A28 := Aside0.mk A280
     clear A280
     obtain rfl := Option.some.inj H
     go_enter Tryd.func5, Tryd.ntmps5
     go_wp2_with (first | ((with_reducible refine gate_dst (N := 7) rfl ?_); refine gl (some 7) Tryd.func8 #[] ?_; (with_reducible refine (maquettelaw06_awake.calls k  true _ A2.out (Go.Proofs.YthodilggomedgaaDoor.InvE.ivb hInv)).mono ?_); rintro e w29 ⟨rfl, hb⟩; refine ⟨_, rfl, ?_⟩; replace HB := bst hb; (try clear hb); (try clear hb2); (try clear hk); (try clear hi)) | ((with_reducible refine gate_dst (N := 14) rfl ?_); refine gl (some 14) Tryd.func9 #[.string a0] ?_; (with_reducible refine (token_Cut.calls k a0 t216 none _ A6.out (Go.Proofs.YthodilggomedgaaDoor.InvE.ivb hInv)).mono ?_); rintro e w30 ⟨v218, rfl, ho0, hb⟩; refine ⟨_, rfl, ?_⟩; have HO219 := Aside0.mk (Kd.R_lower ho0 (below_size bel)); replace HB := bst hb; (try clear hb); (try clear hb2); (try clear hk); (try clear hi); (try clear ho0); (try simp only [errW_none, errW_some])) | ((with_reducible refine gate_dst (N := 19) rfl ?_); refine gl (some 19) Tryd.func11 #[.string a0] ?_; (with_reducible refine (maquettelaw06_cut.calls k a0 t220 t221 _ A7.out (Go.Proofs.YthodilggomedgaaDoor.InvE.ivb hInv)).mono ?_); rintro e w31 ⟨v222, rfl, ho0, hb⟩; refine ⟨_, rfl, ?_⟩; have HO223 := Aside0.mk (Kd.R_lower (Kd.R_new' ho0 (Kd.R_lt (kR HO219))) (below_size bel)); replace HO219 := Aside0.mk (Kd.R_elder' (kR HO219) (Kd.R_base ho0) hb); replace HB := bst hb; (try clear hb); (try clear hb2); (try clear hk); (try clear hi); (try clear ho0); obtain ⟨Ao32, co32, eo32⟩ := Kd.R_slice HO219.out; subst eo32; obtain ⟨Ao33, co33, eo33⟩ := Kd.R_slice HO223.out; subst eo33) | (go_at_call 13; (with_reducible refine (maquettelaw06_Same.calls k _ _ t216 _ _ t220 t227 _ ?side1 ?side2 ?side3 ?side4 A28.out).mono ?_); (case side1 => repeat (first | exact (Kd.R_reads' HO219.out).2.2 | (with_reducible refine Kd.C_alloc ?_ _) | (with_reducible refine Kd.C_drewN ?_ _) | (with_reducible refine Kd.C_drew ?_))); (case side2 => exact (Kd.R_reads' HO219.out).2.1); (case side3 => repeat (first | exact (Kd.R_reads' HO223.out).2.2 | (with_reducible refine Kd.C_alloc ?_ _) | (with_reducible refine Kd.C_drewN ?_ _) | (with_reducible refine Kd.C_drew ?_))); (case side4 => exact (Kd.R_reads' HO223.out).2.1); rintro e w' ⟨rfl, ⟨nd, rfl⟩⟩))
     go_ret
     exact ⟨by first | rfl | (simp [errW_none, errW_some] <;> rfl) | (simp [*, errW_none, errW_some] <;> rfl), by repeat (first | (with_reducible first | exact HB.out | apply below_alloc | apply pw_below_drewN | apply below_drew1) | exact HB.out)⟩
    ·have H1 : (some false) = some r := by rw [if_neg (show ¬ (some q226).isNone = true by simp)] at H; exact H
     clear H
     have H := H1
     clear H1
     try simp only [errW_none, errW_some]
     obtain rfl := Option.some.inj H
     go_enter Tryd.func5, Tryd.ntmps5
     go_wp2_with (first | ((with_reducible refine gate_dst (N := 7) rfl ?_); refine gl (some 7) Tryd.func8 #[] ?_; (with_reducible refine (maquettelaw06_awake.calls k  true _ A2.out (Go.Proofs.YthodilggomedgaaDoor.InvE.ivb hInv)).mono ?_); rintro e w34 ⟨rfl, hb⟩; refine ⟨_, rfl, ?_⟩; replace HB := bst hb; (try clear hb); (try clear hb2); (try clear hk); (try clear hi)) | ((with_reducible refine gate_dst (N := 14) rfl ?_); refine gl (some 14) Tryd.func9 #[.string a0] ?_; (with_reducible refine (token_Cut.calls k a0 t216 (some q226) _ A6.out (Go.Proofs.YthodilggomedgaaDoor.InvE.ivb hInv)).mono ?_); rintro e w35 ⟨v218, rfl, ho0, hb⟩; refine ⟨_, rfl, ?_⟩; have HO219 := Aside0.mk (Kd.R_lower ho0 (below_size bel)); replace HB := bst hb; (try clear hb); (try clear hb2); (try clear hk); (try clear hi); (try clear ho0); (try simp only [errW_none, errW_some])) | ((with_reducible refine gate_dst (N := 19) rfl ?_); refine gl (some 19) Tryd.func11 #[.string a0] ?_; (with_reducible refine (maquettelaw06_cut.calls k a0 t220 t221 _ A7.out (Go.Proofs.YthodilggomedgaaDoor.InvE.ivb hInv)).mono ?_); rintro e w36 ⟨v222, rfl, ho0, hb⟩; refine ⟨_, rfl, ?_⟩; have HO223 := Aside0.mk (Kd.R_lower (Kd.R_new' ho0 (Kd.R_lt (kR HO219))) (below_size bel)); replace HO219 := Aside0.mk (Kd.R_elder' (kR HO219) (Kd.R_base ho0) hb); replace HB := bst hb; (try clear hb); (try clear hb2); (try clear hk); (try clear hi); (try clear ho0)))
     go_ret
     exact ⟨by first | rfl | (simp [errW_none, errW_some] <;> rfl) | (simp [*, errW_none, errW_some] <;> rfl), by repeat (first | (with_reducible first | exact HB.out | apply below_alloc | apply pw_below_drewN | apply below_drew1) | exact HB.out)⟩
 ·replace c3 := Bool.eq_false_iff.mpr c3
  subst c3
  have H1 : (some false) = some r := by rw [if_neg (show ¬ (false = true) by decide)] at H; exact H
  clear H
  have H := H1
  clear H1
  obtain rfl := Option.some.inj H
  go_enter Tryd.func5, Tryd.ntmps5
  go_wp2_with (first | ((with_reducible refine gate_dst (N := 7) rfl ?_); refine gl (some 7) Tryd.func8 #[] ?_; (with_reducible refine (maquettelaw06_awake.calls k  false _ A2.out (Go.Proofs.YthodilggomedgaaDoor.InvE.ivb hInv)).mono ?_); rintro e w37 ⟨rfl, hb⟩; refine ⟨_, rfl, ?_⟩; replace HB := bst hb; (try clear hb); (try clear hb2); (try clear hk); (try clear hi)))
  go_ret
  exact ⟨by first | rfl | (simp [errW_none, errW_some] <;> rfl) | (simp [*, errW_none, errW_some] <;> rfl), by repeat (first | (with_reducible first | exact HB.out | apply below_alloc | apply pw_below_drewN | apply below_drew1) | exact HB.out)⟩

end Go.Proofs.YthodilggomedgaaDoor.PTk
