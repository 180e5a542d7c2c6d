-- Written by wip/xprint.py of this work: the printer of the kit, with contracts of this work beside it, shortened.
import Derived.Test.YtmnpgcmpaiejaaaDoorShort
import Derived.Test.YtmnpgcmpaiejaaaDoorPTokx0
import Derived.Test.YtmnpgcmpaiejaaaDoorPTokx5
import Derived.Test.YtmnpgcmpaiejaaaDoorPTokx16
import Derived.Test.YtmnpgcmpaiejaaaDoorPTokx17
namespace Go.Proofs.YtmnpgcmpaiejaaaDoor.PTok
open Go.RowKit Go.Proofs.YtmnpgcmpaiejaaaDoor.Short Go.Proofs.YtmnpgcmpaiejaaaDoorW.PrintWords Go.Proofs.YtmnpgcmpaiejaaaDoorW.PrintLast Go.Proofs.YtmnpgcmpaiejaaaDoorW.PrintMore
attribute [local go_sem] max2_int min2_int max_two min_two max_three min_three max_four min_four   -- for this text's walks alone
set_option linter.unusedVariables false
set_option linter.unusedSimpArgs false

/-! ### maquettelaw06_TokenName: function 3 -/
def maquettelaw06_TokenName.f (k : Nat) (a0 : ByteArray) : Option (Bool) := (maquettelaw06_awake.f k).bind fun t167 => (if t167 = true then ((token_Name.f k a0).bind fun t168 => ((maquettelaw06_name.f k a0).bind fun t169 => (some (t168 == t169)))) else (some false))
theorem maquettelaw06_TokenName.mono : ∀ a0 k, LeO (maquettelaw06_TokenName.f k a0) (maquettelaw06_TokenName.f (k + 1) a0) := by
 intro a0 k
 unfold maquettelaw06_TokenName.f
 repeat' first
   | (with_reducible exact maquettelaw06_awake.mono _)
   | (with_reducible exact maquettelaw06_name.mono _ _)
   | (with_reducible exact token_Name.mono _ _)
   | (with_reducible exact LeO.refl _)
   | (with_reducible exact LeO.none _)
   | (with_reducible refine LeO.ite ?_ ?_)
   | (with_reducible refine LeO.bind ?_ (fun _ => ?_))
   | exact maquettelaw06_awake.mono _
   | exact maquettelaw06_name.mono _ _
   | exact token_Name.mono _ _
   | exact LeO.none _
   | refine LeO.ite ?_ ?_
   | refine LeO.bind ?_ (fun _ => ?_)
set_option maxHeartbeats 8000000 in
set_option maxRecDepth 100000 in
theorem maquettelaw06_TokenName.calls (k : Nat) (a0 : ByteArray) (r : Bool) (w : World) (h : maquettelaw06_TokenName.f k a0 = some r) (hInv : Go.Proofs.YtmnpgcmpaiejaaaDoor.Inv.Inv w) :
  Calls Tryd.prog 3 #[.string a0] w fun e w' => e = .returned (.bool r) ∧ Below w.heap.size w w' := by
 have HB := Aside0.mk (Below.refl w.heap.size w)
 have H : ((maquettelaw06_awake.f k).bind fun t167 => (if t167 = true then ((token_Name.f k a0).bind fun t168 => ((maquettelaw06_name.f k a0).bind fun t169 => (some (t168 == t169)))) else (some false))) = some r := h
 clear h
 replace H := Option.bind_eq_some_iff.mp H
 obtain ⟨t167, A20, H⟩ := H
 replace H : (if t167 = true then ((token_Name.f k a0).bind fun t168 => ((maquettelaw06_name.f k a0).bind fun t169 => (some (t168 == t169)))) else (some false)) = some r := H
 have A2 := Aside0.mk A20
 clear A20
 by_cases c3 : t167 = true
 ·subst c3
  have H1 : ((token_Name.f k a0).bind fun t168 => ((maquettelaw06_name.f k a0).bind fun t169 => (some (t168 == t169)))) = some r := by rw [if_pos rfl] at H; exact H
  clear H
  have H := H1
  clear H1
  replace H := Option.bind_eq_some_iff.mp H
  obtain ⟨t168, A40, H⟩ := H
  replace H : ((maquettelaw06_name.f k a0).bind fun t169 => (some (t168 == t169))) = some r := H
  have A4 := Aside0.mk A40
  clear A40
  replace H := Option.bind_eq_some_iff.mp H
  obtain ⟨t169, A50, H⟩ := H
  replace H : (some (t168 == t169)) = some r := H
  have A5 := Aside0.mk A50
  clear A50
  obtain rfl := Option.some.inj H
  go_enter Tryd.func3, Tryd.ntmps3
  go_wp2_with (first | ((with_reducible refine gate_dst (N := 3) rfl ?_); refine gl (some 3) Tryd.func4 #[] ?_; (with_reducible refine (maquettelaw06_awake.calls k  true _ A2.out (by with_reducible first | exact hInv | exact Go.Proofs.YtmnpgcmpaiejaaaDoor.Inv.Inv.below hInv HB.out | exact Go.Proofs.YtmnpgcmpaiejaaaDoor.Inv.Inv.below hInv bel | (repeat (first | exact hInv | exact Go.Proofs.YtmnpgcmpaiejaaaDoor.Inv.Inv.below hInv HB.out | exact Go.Proofs.YtmnpgcmpaiejaaaDoor.Inv.Inv.below hInv bel | apply Go.Proofs.YtmnpgcmpaiejaaaDoor.Inv.Inv.alloc | apply Go.Proofs.YtmnpgcmpaiejaaaDoor.Inv.Inv.drewN | apply Go.Proofs.YtmnpgcmpaiejaaaDoor.Inv.Inv.drew)))).mono ?_); rintro e w6 ⟨rfl, hb⟩; refine ⟨_, rfl, ?_⟩; replace HB := bst hb; (try clear hb); (try clear hb2); (try clear hk); (try clear hi)) | ((with_reducible refine gate_dst (N := 6) rfl ?_); refine gl (some 6) Tryd.func5 #[.string a0] ?_; (with_reducible refine (token_Name.calls k a0 t168 _ A4.out).mono ?_); rintro e w' ⟨rfl, ⟨nd, rfl⟩⟩; refine ⟨_, rfl, ?_⟩) | ((with_reducible refine gate_dst (N := 8) rfl ?_); refine gl (some 8) Tryd.func6 #[.string a0] ?_; (with_reducible refine (maquettelaw06_name.calls k a0 t169 _ A5.out).mono ?_); rintro e w' ⟨rfl, ⟨nd, rfl⟩⟩; refine ⟨_, rfl, ?_⟩))
  go_ret
  exact ⟨by first | rfl | (simp [errW_none, errW_some] <;> rfl) | (simp [*, errW_none, errW_some] <;> rfl), by repeat (first | (with_reducible first | exact HB.out | apply below_alloc | apply pw_below_drewN | apply below_drew1) | exact HB.out)⟩
 ·replace c3 := Bool.eq_false_iff.mpr c3
  subst c3
  have H1 : (some false) = some r := by rw [if_neg (show ¬ (false = true) by decide)] at H; exact H
  clear H
  have H := H1
  clear H1
  obtain rfl := Option.some.inj H
  go_enter Tryd.func3, Tryd.ntmps3
  go_wp2_with (first | ((with_reducible refine gate_dst (N := 3) rfl ?_); refine gl (some 3) Tryd.func4 #[] ?_; (with_reducible refine (maquettelaw06_awake.calls k  false _ A2.out (by with_reducible first | exact hInv | exact Go.Proofs.YtmnpgcmpaiejaaaDoor.Inv.Inv.below hInv HB.out | exact Go.Proofs.YtmnpgcmpaiejaaaDoor.Inv.Inv.below hInv bel | (repeat (first | exact hInv | exact Go.Proofs.YtmnpgcmpaiejaaaDoor.Inv.Inv.below hInv HB.out | exact Go.Proofs.YtmnpgcmpaiejaaaDoor.Inv.Inv.below hInv bel | apply Go.Proofs.YtmnpgcmpaiejaaaDoor.Inv.Inv.alloc | apply Go.Proofs.YtmnpgcmpaiejaaaDoor.Inv.Inv.drewN | apply Go.Proofs.YtmnpgcmpaiejaaaDoor.Inv.Inv.drew)))).mono ?_); rintro e w7 ⟨rfl, hb⟩; refine ⟨_, rfl, ?_⟩; replace HB := bst hb; (try clear hb); (try clear hb2); (try clear hk); (try clear hi)))
  go_ret
  exact ⟨by first | rfl | (simp [errW_none, errW_some] <;> rfl) | (simp [*, errW_none, errW_some] <;> rfl), by repeat (first | (with_reducible first | exact HB.out | apply below_alloc | apply pw_below_drewN | apply below_drew1) | exact HB.out)⟩

end Go.Proofs.YtmnpgcmpaiejaaaDoor.PTok
