/- The law ForwardLoops of layer 21 answers true for every input: each slice of slices of bytes; and leaves it as it was. No condition. -/
import Derived.Test.YtmegjmiiiecnoaaRows
import Derived.Test.YtmegjmiiiecnoaaLoops
import Derived.Test.YtmegjmiiiecnoaaOpen
namespace Go.Proofs.Ytmegjmiiiecnoaa.forwardLoops
open Go.ChangeShapes Go.WideShapes Go.ChangeAt Go.RowKit Go.Proofs.Ytmegjmiiiecnoaa.Mq Go.Proofs.Ytmegjmiiiecnoaa.Open 
set_option linter.unusedVariables false
theorem own : ownKnob Try.prog.godebug = none := by kernel_rfl
theorem laidOut : laidOutB Try.prog = true := by kernel_rfl
set_option maxRecDepth 100000 in
theorem lifted (os : Os) (started : os.Started) (H : Type) (enc : TypeId × Value → H) :
    ReturnsInHanded {} Try.checked os 3 .any (Rows.forwardLoopsSpec.pre6 enc Try.prog Try.f3 Rows.forwardLoopsRow.domain false) (Rows.forwardLoopsSpec.post enc Try.prog Try.f3 false true false false) := by
  refine lifted_of_walk (C := Try.checked) (tb := 4) own started (by kernel_rfl) Try.func3 laidOut rfl ?_ rfl Try.underlying4 ?_ (ChangeSpec.witness6 (enc := enc) (C := Try.checked) false ⟨#[], #[.slice none 0 0], []⟩ 8 (by kernel_rfl) (by kernel_rfl) (by kernel_rfl) (by kernel_rfl)) ?_
  · intro ds h
    match ds, h with
    | [d0], _ => rfl
  · intro t ht
    have : t = 22 := by simpa [Try.f3] using ht
    subst this
    · exact ⟨by kernel_rfl, of_decide_eq_true (by kernel_rfl)⟩
  · intro W base args ds p hval0 hA0 hsz0
    have hval : ∀ (j : Nat) t v, Try.f3.params[j]? = some t → args[j]? = some v → Value.okWide Try.prog W .any base t v := hval0
    have hA : DataW.TrodAll enc Try.prog W 0 (fun _ => true) true Try.f3.params.toList args.toList ds p := hA0
    rw [Try.params3] at hA hval
    obtain ⟨v0, vs0, d0, ds0, p0, q0, hargs, rfl, rfl, h0, r0⟩ := trodAll_cons hA
    obtain ⟨rfl, rfl, rfl⟩ := trodAll_nil r0
    obtain rfl : args = #[v0] := by cases args; simp_all
    obtain ⟨A0, raw, c0, rfl, hc0, hr0, hok0⟩ := open_arg Try.underlying22 (hval 0 _ v0 rfl rfl) (by kernel_rfl) (by decide) (opens_slice Try.underlying39 (by kernel_rfl) (by decide) (opens_int Try.underlying5)) h0
    refine (Loops.loops_walk hr0 (fun r hr x hx => ?_)).mono fun e W' ⟨he, hb⟩ => ⟨he, hb.below⟩
    obtain ⟨e, he⟩ := hok0.all r hr
    obtain ⟨e', he'⟩ := he.all x hx
    exact wf_u8' he'
theorem over : Rows.forwardLoopsRow.holds Try.pinned (OpenSpec.ofChange Rows.forwardLoopsSpec) :=
  OpenClaim.holds_of_wide 3 Try.f3 rfl rfl rfl rfl rfl rfl rfl ⟨rfl, rfl, rfl, rfl, rfl⟩ rfl rfl rfl rfl rfl (by kernel_rfl) Try.func3 (by kernel_rfl)
    (of_decide_eq_true (by kernel_rfl)) (by unfold Func.isWrapper; first | (rw [if_pos (by decide +kernel)]; kernel_rfl) | (rw [if_neg (by decide +kernel)]; exact ⟨rfl, rfl⟩))
    (fun os started H enc _ => lifted os started H enc)
theorem proved : Rows.ForwardLoopsSaid := over
#print axioms proved
end Go.Proofs.Ytmegjmiiiecnoaa.forwardLoops
