/- The law TokenBack of layer 6 answers true for every text, and leaves it as it was. No condition; the tables that the row lists are tied to the program's text. -/
import Derived.Test.YthodilggomedgaaDoorRows
import Derived.Test.YthodilggomedgaaDoorCards
import Derived.Test.YthodilggomedgaaDoorTie
import Derived.Test.YthodilggomedgaaDoorBkH
import Derived.Test.YthodilggomedgaaDoorDoor
namespace Go.Proofs.YthodilggomedgaaDoor.tokenBack
open Go.ChangeShapes Go.WideShapes Go.ChangeAt Go.RowKit Go.Proofs.YthodilggomedgaaDoor.Open Go.Proofs.YthodilggomedgaaDoor.OpenK Go.Proofs.YthodilggomedgaaDoor.Door Go.Proofs.YthodilggomedgaaDoor.PTb
open Go.Proofs.YthodilggomedgaaDoorW.PrintWords (Kd)
set_option linter.unusedVariables false
theorem reads (os : Os) {H : Type} (enc : TypeId × Value → H) : ∃ places, DataW.whole enc Tryd.prog ((laidWorld os).forCall (fun _ _ => 0) ⟨#[], #[.string ByteArray.empty], []⟩).memory Tryd.f3.params.toList Rows.tokenBackSpec.vars false (#[.string ByteArray.empty] : Array Value).toList 8 = some ([.lit (.string [])], [], places) := ⟨[], by kernel_rfl⟩
set_option maxRecDepth 100000 in
theorem lifted (os : Os) (started : os.Started) (H : Type) (enc : TypeId × Value → H) (F : Stop.Interp) :
    ReturnsInHanded {} Tryd.checked os 3 .any ((OpenSpec.ofChange Rows.tokenBackSpec).preRow enc Tryd.prog Tryd.f3 Rows.tokenBackRow.domain false Rows.tokenBackRow.laid) (((OpenSpec.ofChange Rows.tokenBackSpec).at F).post enc Tryd.prog Tryd.f3 false true false false) := by
  obtain ⟨places, hx⟩ := reads os enc
  refine lifted_of_walk_row (C := Tryd.checked) (s := Rows.tokenBackSpec) (s' := (OpenSpec.ofChange Rows.tokenBackSpec)) (tb := 4) own started (by kernel_rfl) Tryd.func3 laidOut rfl (fun _ _ _ _ h => h) rfl ?_ rfl Tryd.underlying4 ?_
    (witness_row_atRef (enc := enc) (C := Tryd.checked) false (laidWorld os) #[.string ByteArray.empty] rfl (by kernel_rfl) (by kernel_rfl) (by kernel_rfl)
      (OpenSpec.preRow_of_cond 8 hx (by kernel_rfl) (fun k hk => by cases hk) (by kernel_rfl) (laid_met os _))) ?_
  · intro ds h
    match ds, h with
    | [d0], _ => rfl
  · intro t ht
    have : t = 9 := by simpa [Tryd.f3] using ht
    subst this
    · exact ⟨by kernel_rfl, of_decide_eq_true (by kernel_rfl)⟩
  · intro W base args ds p hval0 hA0 hcond hL hsh
    have hInv := inv_of_row (hL) hsh
    have hval : ∀ (j : Nat) t v, Tryd.f3.params[j]? = some t → args[j]? = some v → Value.okWide Tryd.prog W .any base t v := hval0
    have hA : DataW.TrodAll enc Tryd.prog W 0 (fun _ => true) true Tryd.f3.params.toList args.toList ds p := hA0
    rw [Tryd.params3] at hA hval
    obtain ⟨v0, vs0, d0, ds0, p0, q0, hargs, rfl, rfl, h0, r0⟩ := trodAll_cons hA
    obtain ⟨rfl, rfl, rfl⟩ := trodAll_nil r0
    obtain rfl : args = #[v0] := by cases args; simp_all
    clear hA0 hval0
    obtain ⟨s, rfl, rfl, rfl, hw0⟩ := Go.ChangeMaps.open_string Tryd.underlying9 (hval 0 _ v0 rfl rfl) h0
    obtain ⟨k, hk⟩ := BkH.ltokback s
    exact (maquettelaw06_TokenBack.calls k s true W hk hInv).mono fun e W' ⟨he, hb⟩ => ⟨he, hb⟩
theorem over : Rows.tokenBackRow.holds Tryd.pinned (OpenSpec.ofChange Rows.tokenBackSpec) :=
  OpenClaim.holds_of_cond 3 Tryd.f3 rfl rfl rfl rfl rfl rfl rfl ⟨rfl, rfl, rfl, rfl, rfl⟩ rfl rfl rfl rfl rfl (by kernel_rfl) Tryd.func3 (by kernel_rfl)
    (of_decide_eq_true (by kernel_rfl)) (by unfold Func.isWrapper; first | (rw [if_pos (by decide +kernel)]; kernel_rfl) | (rw [if_neg (by decide +kernel)]; exact ⟨rfl, rfl⟩))
    (fun os started H enc _ F => by rw [OpenClaim.pre_eq_preRow]; exact lifted os started H enc F)
theorem said : Rows.TokenBackSaid := over
theorem plain (f : FuncId) (fn : Func) (hf : Tryd.pinned.checked.prog.funcNamed "maquette/maquettelaw06.TokenBack" = some f) (hfn : Tryd.pinned.checked.prog.funcs[f]? = some fn) :
    true = Tryd.pinned.checked.prog.looks [] ∧ ∀ (j : Nat) t, fn.params[j]? = some t → Tryd.pinned.checked.prog.wantsStandIn t = false := by
  obtain rfl : f = 3 := Option.some.inj ((show Tryd.prog.funcNamed "maquette/maquettelaw06.TokenBack" = some 3 by kernel_rfl).symm.trans hf) |>.symm
  obtain rfl : fn = Tryd.f3 := (Option.some.inj (Tryd.func3.symm.trans hfn)).symm
  refine ⟨by kernel_rfl, fun j t ht => ?_⟩
  rw [Tryd.params3] at ht
  have ht : t = 9 := by have := Array.mem_of_getElem? ht; simpa using this
  subst ht
  · exact (show Tryd.prog.wantsStandIn 9 = false by kernel_rfl)
theorem proved : Rows.TokenBackCardSaid :=
  Claim7.holds_tied_plain_at .later [] _ _ _ _ said (fun _ h => by cases h) (by kernel_rfl) (fun _ h => by cases h) tokenBack_row_tie rfl ⟨rfl, rfl⟩ (by kernel_rfl) rfl plain (by kernel_rfl)
#print axioms proved
end Go.Proofs.YthodilggomedgaaDoor.tokenBack
