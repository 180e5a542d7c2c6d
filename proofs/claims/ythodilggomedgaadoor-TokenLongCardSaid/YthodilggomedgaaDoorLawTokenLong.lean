/- The law TokenLong of layer 6 answers true for every number of 8 bits, and leaves it as it was. No condition; the tables that the row lists are tied to the program's text. -/
import Derived.Test.YthodilggomedgaaDoorRows
import Derived.Test.YthodilggomedgaaDoorCards
import Derived.Test.YthodilggomedgaaDoorTie
import Derived.Test.YthodilggomedgaaDoorTokG
import Derived.Test.YthodilggomedgaaDoorDoorE
namespace Go.Proofs.YthodilggomedgaaDoor.tokenLong
open Go.ChangeShapes Go.WideShapes Go.ChangeAt Go.RowKit Go.Proofs.YthodilggomedgaaDoor.Open Go.Proofs.YthodilggomedgaaDoor.OpenK Go.Proofs.YthodilggomedgaaDoor.Door Go.Proofs.YthodilggomedgaaDoor.PTk
open Go.Proofs.YthodilggomedgaaDoorW.PrintWords (Kd)
set_option linter.unusedVariables false
theorem reads (os : Os) {H : Type} (enc : TypeId × Value → H) : ∃ places, DataW.whole enc Tryd.prog ((laidWorldE os).forCall (fun _ _ => 0) ⟨#[], #[.int .u8 0], []⟩).memory Tryd.f6.params.toList Rows.tokenLongSpec.vars false (#[.int .u8 0] : Array Value).toList 8 = some ([.lit (.int .u8 0)], [], places) := ⟨[], by kernel_rfl⟩
set_option maxRecDepth 100000 in
theorem lifted (os : Os) (started : os.Started) (H : Type) (enc : TypeId × Value → H) (F : Stop.Interp) :
    ReturnsInHanded {} Tryd.checked os 6 .any ((OpenSpec.ofChange Rows.tokenLongSpec).preRow enc Tryd.prog Tryd.f6 Rows.tokenLongRow.domain false Rows.tokenLongRow.laid) (((OpenSpec.ofChange Rows.tokenLongSpec).at F).post enc Tryd.prog Tryd.f6 false true false false) := by
  obtain ⟨places, hx⟩ := reads os enc
  refine lifted_of_walk_row (C := Tryd.checked) (s := Rows.tokenLongSpec) (s' := (OpenSpec.ofChange Rows.tokenLongSpec)) (tb := 4) own started (by kernel_rfl) Tryd.func6 laidOut rfl (fun _ _ _ _ h => h) rfl ?_ rfl Tryd.underlying4 ?_
    (witness_row_atRef (enc := enc) (C := Tryd.checked) false (laidWorldE os) #[.int .u8 0] rfl (by kernel_rfl) (by kernel_rfl) (by kernel_rfl)
      (OpenSpec.preRow_of_cond 8 hx (by kernel_rfl) (fun k hk => by cases hk) (by kernel_rfl) (laid_metE os _))) ?_
  · intro ds h
    match ds, h with
    | [d0], _ => rfl
  · intro t ht
    have : t = 5 := by simpa [Tryd.f6] using ht
    subst this
    · exact ⟨by kernel_rfl, of_decide_eq_true (by kernel_rfl)⟩
  · intro W base args ds p hval0 hA0 hcond hL hsh
    have hInv := inv_of_rowE (hL) hsh
    have hval : ∀ (j : Nat) t v, Tryd.f6.params[j]? = some t → args[j]? = some v → Value.okWide Tryd.prog W .any base t v := hval0
    have hA : DataW.TrodAll enc Tryd.prog W 0 (fun _ => true) true Tryd.f6.params.toList args.toList ds p := hA0
    rw [Tryd.params6] at hA hval
    obtain ⟨v0, vs0, d0, ds0, p0, q0, hargs, rfl, rfl, h0, r0⟩ := trodAll_cons hA
    obtain ⟨rfl, rfl, rfl⟩ := trodAll_nil r0
    obtain rfl : args = #[v0] := by cases args; simp_all
    clear hA0 hval0
    obtain ⟨a, rfl, rfl, rfl, hw0⟩ := open_int Tryd.underlying5 (hval 0 _ v0 rfl rfl) h0
    have hn := wf_u8' hw0
    obtain ⟨k, hk⟩ := TokG.ltoklong a ⟨by omega, by omega⟩
    exact (maquettelaw06_TokenLong.calls k a true W hk hInv).mono fun e W' ⟨he, hb⟩ => ⟨he, hb⟩
theorem over : Rows.tokenLongRow.holds Tryd.pinned (OpenSpec.ofChange Rows.tokenLongSpec) :=
  OpenClaim.holds_of_cond 6 Tryd.f6 rfl rfl rfl rfl rfl rfl rfl ⟨rfl, rfl, rfl, rfl, rfl⟩ rfl rfl rfl rfl rfl (by kernel_rfl) Tryd.func6 (by kernel_rfl)
    (of_decide_eq_true (by kernel_rfl)) (by unfold Func.isWrapper; first | (rw [if_pos (by decide +kernel)]; kernel_rfl) | (rw [if_neg (by decide +kernel)]; exact ⟨rfl, rfl⟩))
    (fun os started H enc _ F => by rw [OpenClaim.pre_eq_preRow]; exact lifted os started H enc F)
theorem said : Rows.TokenLongSaid := over
theorem plain (f : FuncId) (fn : Func) (hf : Tryd.pinned.checked.prog.funcNamed "maquette/maquettelaw06.TokenLong" = some f) (hfn : Tryd.pinned.checked.prog.funcs[f]? = some fn) :
    true = Tryd.pinned.checked.prog.looks [] ∧ ∀ (j : Nat) t, fn.params[j]? = some t → Tryd.pinned.checked.prog.wantsStandIn t = false := by
  obtain rfl : f = 6 := Option.some.inj ((show Tryd.prog.funcNamed "maquette/maquettelaw06.TokenLong" = some 6 by kernel_rfl).symm.trans hf) |>.symm
  obtain rfl : fn = Tryd.f6 := (Option.some.inj (Tryd.func6.symm.trans hfn)).symm
  refine ⟨by kernel_rfl, fun j t ht => ?_⟩
  rw [Tryd.params6] at ht
  have ht : t = 5 := by have := Array.mem_of_getElem? ht; simpa using this
  subst ht
  · exact (show Tryd.prog.wantsStandIn 5 = false by kernel_rfl)
theorem proved : Rows.TokenLongCardSaid :=
  Claim7.holds_tied_plain_at .later [] _ _ _ _ said (fun _ h => by cases h) (by kernel_rfl) (fun _ h => by cases h) tokenLong_row_tie rfl ⟨rfl, rfl⟩ (by kernel_rfl) rfl plain (by kernel_rfl)
#print axioms proved
end Go.Proofs.YthodilggomedgaaDoor.tokenLong
