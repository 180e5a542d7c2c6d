/- The law PrefixOrder of layer 5 answers true for every three numbers of 8 bits, and leaves them as they were. No condition; the tables that the row lists are tied to the program's text. -/
import Derived.Test.YtkbjjamaneiijaaDoorRows
import Derived.Test.YtkbjjamaneiijaaDoorCards
import Derived.Test.YtkbjjamaneiijaaDoorTie
import Derived.Test.YtkbjjamaneiijaaDoorPreOrd
import Derived.Test.YtkbjjamaneiijaaDoorDoor
namespace Go.Proofs.YtkbjjamaneiijaaDoor.prefixOrder
open Go.ChangeShapes Go.WideShapes Go.ChangeAt Go.RowKit Go.Proofs.YtkbjjamaneiijaaDoor.Open Go.Proofs.YtkbjjamaneiijaaDoor.OpenK Go.Proofs.YtkbjjamaneiijaaDoor.Door Go.Proofs.YtkbjjamaneiijaaDoor.PPre
open Go.Proofs.YtkbjjamaneiijaaDoorW.PrintWords (Kd)
set_option linter.unusedVariables false
theorem reads (os : Os) {H : Type} (enc : TypeId × Value → H) : ∃ places, DataW.whole enc Tryd.prog ((laidWorld os).forCall (fun _ _ => 0) ⟨#[], #[.int .u8 0, .int .u8 0, .int .u8 0], []⟩).memory Tryd.f8.params.toList Rows.prefixOrderSpec.vars false (#[.int .u8 0, .int .u8 0, .int .u8 0] : Array Value).toList 8 = some ([.lit (.int .u8 0), .lit (.int .u8 0), .lit (.int .u8 0)], [], places) := ⟨[], by kernel_rfl⟩
set_option maxRecDepth 100000 in
theorem lifted (os : Os) (started : os.Started) (H : Type) (enc : TypeId × Value → H) (F : Stop.Interp) :
    ReturnsInHanded {} Tryd.checked os 8 .any ((OpenSpec.ofChange Rows.prefixOrderSpec).preRow enc Tryd.prog Tryd.f8 Rows.prefixOrderRow.domain false Rows.prefixOrderRow.laid) (((OpenSpec.ofChange Rows.prefixOrderSpec).at F).post enc Tryd.prog Tryd.f8 false true false false) := by
  obtain ⟨places, hx⟩ := reads os enc
  refine lifted_of_walk_row (C := Tryd.checked) (s := Rows.prefixOrderSpec) (s' := (OpenSpec.ofChange Rows.prefixOrderSpec)) (tb := 4) own started (by kernel_rfl) Tryd.func8 laidOut rfl (fun _ _ _ _ h => h) rfl ?_ rfl Tryd.underlying4 ?_
    (witness_row_atRef (enc := enc) (C := Tryd.checked) false (laidWorld os) #[.int .u8 0, .int .u8 0, .int .u8 0] rfl (by kernel_rfl) (by kernel_rfl) (by kernel_rfl)
      (OpenSpec.preRow_of_cond 8 hx (by kernel_rfl) (fun k hk => by cases hk) (by kernel_rfl) (laid_met os _))) ?_
  · intro ds h
    match ds, h with
    | [d0, d1, d2], _ => rfl
  · intro t ht
    have : t = 5 := by simpa [Tryd.f8] using ht
    subst this
    · exact ⟨by kernel_rfl, of_decide_eq_true (by kernel_rfl)⟩
  · intro W base args ds p hval0 hA0 hcond hL hsh
    have hInv := inv_of_row (hL) hsh
    have hval : ∀ (j : Nat) t v, Tryd.f8.params[j]? = some t → args[j]? = some v → Value.okWide Tryd.prog W .any base t v := hval0
    have hA : DataW.TrodAll enc Tryd.prog W 0 (fun _ => true) true Tryd.f8.params.toList args.toList ds p := hA0
    rw [Tryd.params8] at hA hval
    obtain ⟨v0, vs0, d0, ds0, p0, q0, hargs, rfl, rfl, h0, r0⟩ := trodAll_cons hA
    obtain ⟨v1, vs1, d1, ds1, p1, q1, rfl, rfl, rfl, h1, r1⟩ := trodAll_cons r0
    obtain ⟨v2, vs2, d2, ds2, p2, q2, rfl, rfl, rfl, h2, r2⟩ := trodAll_cons r1
    obtain ⟨rfl, rfl, rfl⟩ := trodAll_nil r2
    obtain rfl : args = #[v0, v1, v2] := by cases args; simp_all
    clear hA0 hval0
    obtain ⟨x, rfl, rfl, rfl, hw0⟩ := open_int Tryd.underlying5 (hval 0 _ v0 rfl rfl) h0
    obtain ⟨y, rfl, rfl, rfl, hw1⟩ := open_int Tryd.underlying5 (hval 1 _ v1 rfl rfl) h1
    obtain ⟨z, rfl, rfl, rfl, hw2⟩ := open_int Tryd.underlying5 (hval 2 _ v2 rfl rfl) h2
    have hx := wf_u8' hw0
    have hy := wf_u8' hw1
    have hz := wf_u8' hw2
    exact (maquettelaw05_PrefixOrder.calls 40 x y z true W (PreL.lord x y z hx.1 hx.2 hy.1 hy.2 hz.1 hz.2) hInv).mono fun e W' ⟨he, hb⟩ => ⟨he, hb⟩
theorem over : Rows.prefixOrderRow.holds Tryd.pinned (OpenSpec.ofChange Rows.prefixOrderSpec) :=
  OpenClaim.holds_of_cond 8 Tryd.f8 rfl rfl rfl rfl rfl rfl rfl ⟨rfl, rfl, rfl, rfl, rfl⟩ rfl rfl rfl rfl rfl (by kernel_rfl) Tryd.func8 (by kernel_rfl)
    (of_decide_eq_true (by kernel_rfl)) (by unfold Func.isWrapper; first | (rw [if_pos (by decide +kernel)]; kernel_rfl) | (rw [if_neg (by decide +kernel)]; exact ⟨rfl, rfl⟩))
    (fun os started H enc _ F => by rw [OpenClaim.pre_eq_preRow]; exact lifted os started H enc F)
theorem said : Rows.PrefixOrderSaid := over
theorem plain (f : FuncId) (fn : Func) (hf : Tryd.pinned.checked.prog.funcNamed "maquette/maquettelaw05.PrefixOrder" = some f) (hfn : Tryd.pinned.checked.prog.funcs[f]? = some fn) :
    true = Tryd.pinned.checked.prog.looks [] ∧ ∀ (j : Nat) t, fn.params[j]? = some t → Tryd.pinned.checked.prog.wantsStandIn t = false := by
  obtain rfl : f = 8 := Option.some.inj ((show Tryd.prog.funcNamed "maquette/maquettelaw05.PrefixOrder" = some 8 by kernel_rfl).symm.trans hf) |>.symm
  obtain rfl : fn = Tryd.f8 := (Option.some.inj (Tryd.func8.symm.trans hfn)).symm
  refine ⟨by kernel_rfl, fun j t ht => ?_⟩
  rw [Tryd.params8] at ht
  have ht : t = 5 := by have := Array.mem_of_getElem? ht; simpa using this
  subst ht
  · exact (show Tryd.prog.wantsStandIn 5 = false by kernel_rfl)
theorem proved : Rows.PrefixOrderCardSaid :=
  Claim7.holds_tied_plain_at .later [] _ _ _ _ said (fun _ h => by cases h) (by kernel_rfl) (fun _ h => by cases h) prefixOrder_row_tie rfl ⟨rfl, rfl⟩ (by kernel_rfl) rfl plain (by kernel_rfl)
#print axioms proved
end Go.Proofs.YtkbjjamaneiijaaDoor.prefixOrder
