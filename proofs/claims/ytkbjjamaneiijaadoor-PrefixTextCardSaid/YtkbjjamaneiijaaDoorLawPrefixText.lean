/- The law PrefixText of layer 5 answers true for every prefix and every number of 8 bits, and leaves them as they were. No condition; the tables that the row lists are tied to the program's text. -/
import Derived.Test.YtkbjjamaneiijaaDoorRows
import Derived.Test.YtkbjjamaneiijaaDoorCards
import Derived.Test.YtkbjjamaneiijaaDoorTie
import Derived.Test.YtkbjjamaneiijaaDoorPreTx
import Derived.Test.YtkbjjamaneiijaaDoorDoor
namespace Go.Proofs.YtkbjjamaneiijaaDoor.prefixText
open Go.ChangeShapes Go.WideShapes Go.ChangeAt Go.RowKit Go.Proofs.YtkbjjamaneiijaaDoor.Open Go.Proofs.YtkbjjamaneiijaaDoor.OpenK Go.Proofs.YtkbjjamaneiijaaDoor.Door Go.Proofs.YtkbjjamaneiijaaDoor.PPre
open Go.Proofs.YtkbjjamaneiijaaDoorW.PrintWords (Kd)
set_option linter.unusedVariables false
def ok_S24 {H : Type} (y : S24) (D : DataW H) : Prop := ∃ D0 D1, D = .agg [D0, D1] ∧ (fun (y : Int) D => (Lit.int .u32 y).wf = true ∧ D = .lit (.int .u32 y)) y.f0 D0  ∧ (fun (y : Int) D => (Lit.int .i64 y).wf = true ∧ D = .lit (.int .i64 y)) y.f1 D1
theorem opens_S24 {H : Type} {enc : TypeId × Value → H} {w : World} {base : Nat} {spare : Nat → Bool} {held : Bool} : Opens enc Tryd.prog w base spare held 24 k24 ok_S24 := by
  intro n cs x h
  obtain ⟨xs, n_, _, rfl, hl, hlen, hf⟩ := DataW.trod_struct Tryd.underlying24 h
  match xs, hlen with
  | [y0, y1], _ =>
    obtain ⟨x0, k0, o0⟩ := (show Opens enc Tryd.prog w base spare held _ (Kd.int .u32) (fun (y : Int) D => (Lit.int .u32 y).wf = true ∧ D = .lit (.int .u32 y)) from (opens_int Tryd.underlying22)) _ _ _ ((hf 0 _ rfl).trans rfl)
    obtain ⟨x1, k1, o1⟩ := (show Opens enc Tryd.prog w base spare held _ (Kd.int .i64) (fun (y : Int) D => (Lit.int .i64 y).wf = true ∧ D = .lit (.int .i64 y)) from (opens_int Tryd.underlying3)) _ _ _ ((hf 1 _ rfl).trans rfl)
    refine ⟨⟨x0, x1⟩, ?_, y0.1, y1.1, rfl, o0, o1⟩
    exact (pair_at (by kernel_rfl) k0 (last_at hl (by kernel_rfl) k1))
theorem reads (os : Os) {H : Type} (enc : TypeId × Value → H) : ∃ places, DataW.whole enc Tryd.prog ((laidWorld os).forCall (fun _ _ => 0) ⟨#[], #[.agg #[.int .u32 0, .int .i64 0], .int .u8 0], []⟩).memory Tryd.f3.params.toList Rows.prefixTextSpec.vars false (#[.agg #[.int .u32 0, .int .i64 0], .int .u8 0] : Array Value).toList 8 = some ([.agg [.lit (.int .u32 0), .lit (.int .i64 0)], .lit (.int .u8 0)], [], places) := ⟨[], by kernel_rfl⟩
set_option maxRecDepth 100000 in
theorem lifted (os : Os) (started : os.Started) (H : Type) (enc : TypeId × Value → H) (F : Stop.Interp) :
    ReturnsInHanded {} Tryd.checked os 3 .any ((OpenSpec.ofChange Rows.prefixTextSpec).preRow enc Tryd.prog Tryd.f3 Rows.prefixTextRow.domain false Rows.prefixTextRow.laid) (((OpenSpec.ofChange Rows.prefixTextSpec).at F).post enc Tryd.prog Tryd.f3 false true false false) := by
  obtain ⟨places, hx⟩ := reads os enc
  refine lifted_of_walk_row (C := Tryd.checked) (s := Rows.prefixTextSpec) (s' := (OpenSpec.ofChange Rows.prefixTextSpec)) (tb := 4) own started (by kernel_rfl) Tryd.func3 laidOut rfl (fun _ _ _ _ h => h) rfl ?_ rfl Tryd.underlying4 ?_
    (witness_row_atRef (enc := enc) (C := Tryd.checked) false (laidWorld os) #[.agg #[.int .u32 0, .int .i64 0], .int .u8 0] rfl (by kernel_rfl) (by kernel_rfl) (by kernel_rfl)
      (OpenSpec.preRow_of_cond 8 hx (by kernel_rfl) (fun k hk => by cases hk) (by kernel_rfl) (laid_met os _))) ?_
  · intro ds h
    match ds, h with
    | [d0, d1], _ => rfl
  · intro t ht
    have : t = 24 ∨ t = 5 := by simpa [Tryd.f3] using ht
    rcases this with rfl | rfl
    · exact ⟨by kernel_rfl, of_decide_eq_true (by kernel_rfl)⟩
    · exact ⟨by kernel_rfl, of_decide_eq_true (by kernel_rfl)⟩
  · intro W base args ds p hval0 hA0 hcond hL hsh
    have hInv := inv_of_row (hL) hsh
    have hval : ∀ (j : Nat) t v, Tryd.f3.params[j]? = some t → args[j]? = some v → Value.okWide Tryd.prog W .any base t v := hval0
    have hA : DataW.TrodAll enc Tryd.prog W 0 (fun _ => true) true Tryd.f3.params.toList args.toList ds p := hA0
    rw [Tryd.params3] at hA hval
    obtain ⟨v0, vs0, d0, ds0, p0, q0, hargs, rfl, rfl, h0, r0⟩ := trodAll_cons hA
    obtain ⟨v1, vs1, d1, ds1, p1, q1, rfl, rfl, rfl, h1, r1⟩ := trodAll_cons r0
    obtain ⟨rfl, rfl, rfl⟩ := trodAll_nil r1
    obtain rfl : args = #[v0, v1] := by cases args; simp_all
    clear hA0 hval0
    obtain ⟨x0, cs0, rfl, hK0, hok0⟩ := open_agg Tryd.underlying24 (hval 0 _ v0 rfl rfl) (opens_S24 (enc := enc) (w := W)) h0
    have hcs0 := k24_open hK0
    obtain rfl := agg_eq hcs0
    obtain ⟨n, rfl, rfl, rfl, hw1⟩ := open_int Tryd.underlying5 (hval 1 _ v1 rfl rfl) h1
    have hg : 0 ≤ x0.f0 ∧ x0.f0 < 4294967296 := by
      obtain ⟨D0, D1, _, o0, _⟩ := hok0
      have := wf_u32' o0.1
      omega
    have hn := wf_u8' hw1
    exact (maquettelaw05_PrefixText.calls 80 _ _ n true W (PreT.ltx _ _ n hg.1 hg.2 hn.1 hn.2) hInv).mono fun e W' ⟨he, hb⟩ => ⟨he, hb⟩
theorem over : Rows.prefixTextRow.holds Tryd.pinned (OpenSpec.ofChange Rows.prefixTextSpec) :=
  OpenClaim.holds_of_cond 3 Tryd.f3 rfl rfl rfl rfl rfl rfl rfl ⟨rfl, rfl, rfl, rfl, rfl⟩ rfl rfl rfl rfl rfl (by kernel_rfl) Tryd.func3 (by kernel_rfl)
    (of_decide_eq_true (by kernel_rfl)) (by unfold Func.isWrapper; first | (rw [if_pos (by decide +kernel)]; kernel_rfl) | (rw [if_neg (by decide +kernel)]; exact ⟨rfl, rfl⟩))
    (fun os started H enc _ F => by rw [OpenClaim.pre_eq_preRow]; exact lifted os started H enc F)
theorem said : Rows.PrefixTextSaid := over
theorem plain (f : FuncId) (fn : Func) (hf : Tryd.pinned.checked.prog.funcNamed "maquette/maquettelaw05.PrefixText" = some f) (hfn : Tryd.pinned.checked.prog.funcs[f]? = some fn) :
    true = Tryd.pinned.checked.prog.looks [] ∧ ∀ (j : Nat) t, fn.params[j]? = some t → Tryd.pinned.checked.prog.wantsStandIn t = false := by
  obtain rfl : f = 3 := Option.some.inj ((show Tryd.prog.funcNamed "maquette/maquettelaw05.PrefixText" = some 3 by kernel_rfl).symm.trans hf) |>.symm
  obtain rfl : fn = Tryd.f3 := (Option.some.inj (Tryd.func3.symm.trans hfn)).symm
  refine ⟨by kernel_rfl, fun j t ht => ?_⟩
  rw [Tryd.params3] at ht
  have ht : t = 24 ∨ t = 5 := by have := Array.mem_of_getElem? ht; simpa using this
  rcases ht with rfl | rfl
  · exact (show Tryd.prog.wantsStandIn 24 = false by kernel_rfl)
  · exact (show Tryd.prog.wantsStandIn 5 = false by kernel_rfl)
theorem proved : Rows.PrefixTextCardSaid :=
  Claim7.holds_tied_plain_at .later [] _ _ _ _ said (fun _ h => by cases h) (by kernel_rfl) (fun _ h => by cases h) prefixText_row_tie rfl ⟨rfl, rfl⟩ (by kernel_rfl) rfl plain (by kernel_rfl)
#print axioms proved
end Go.Proofs.YtkbjjamaneiijaaDoor.prefixText
