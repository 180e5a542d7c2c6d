/- The law ForwardMore of layer 21 answers true for every input: each slice of slices of bytes, each slice of bools and each number of 8 bits; and leaves them as they were. No condition. -/
import Derived.Test.YtmegjmiiiecnoaaRows
import Derived.Test.YtmegjmiiiecnoaaMore
import Derived.Test.YtmegjmiiiecnoaaOpen
namespace Go.Proofs.Ytmegjmiiiecnoaa.forwardMore
open Go.ChangeShapes Go.WideShapes Go.ChangeAt Go.RowKit Go.Proofs.Ytmegjmiiiecnoaa.Mq Go.Proofs.Ytmegjmiiiecnoaa.Open
set_option linter.unusedVariables false
theorem own : ownKnob Try.prog.godebug = none := by kernel_rfl
theorem laidOut : laidOutB Try.prog = true := by kernel_rfl
set_option maxRecDepth 100000 in
theorem lifted (os : Os) (started : os.Started) (H : Type) (enc : TypeId × Value → H) :
    ReturnsInHanded {} Try.checked os 6 .any (Rows.forwardMoreSpec.pre6 enc Try.prog Try.f6 Rows.forwardMoreRow.domain false) (Rows.forwardMoreSpec.post enc Try.prog Try.f6 false true false false) := by
  refine lifted_of_walk (C := Try.checked) (tb := 4) own started (by kernel_rfl) Try.func6 laidOut rfl ?_ rfl Try.underlying4 ?_ (ChangeSpec.witness6 (enc := enc) (C := Try.checked) false ⟨#[], #[.slice none 0 0, .slice none 0 0, .int .i8 0], []⟩ 8 (by kernel_rfl) (by kernel_rfl) (by kernel_rfl) (by kernel_rfl)) ?_
  · intro ds h
    match ds, h with
    | [d1, d2, d3], _ => rfl
  · intro t ht
    have : t = 22 ∨ t = 27 ∨ t = 36 := by simpa [Try.f6] using ht
    rcases this with rfl | rfl | rfl
    · exact ⟨by kernel_rfl, of_decide_eq_true (by kernel_rfl)⟩
    · exact ⟨by kernel_rfl, of_decide_eq_true (by kernel_rfl)⟩
    · exact ⟨by kernel_rfl, of_decide_eq_true (by kernel_rfl)⟩
  · intro W base args ds p hval0 hA0 hsz0
    have hval : ∀ (j : Nat) t v, Try.f6.params[j]? = some t → args[j]? = some v → Value.okWide Try.prog W .any base t v := hval0
    have hA : DataW.TrodAll enc Try.prog W 0 (fun _ => true) true Try.f6.params.toList args.toList ds p := hA0
    rw [Try.params6] at hA hval
    obtain ⟨v0, vs0, d0, ds0, p0, q0, hargs, rfl, rfl, h0, r0⟩ := trodAll_cons hA
    obtain ⟨v1, vs1, d1, ds1, p1, q1, rfl, rfl, rfl, h1, r1⟩ := trodAll_cons r0
    obtain ⟨v2, vs2, d2, ds2, p2, q2, rfl, rfl, rfl, h2, r2⟩ := trodAll_cons r1
    obtain ⟨rfl, rfl, rfl⟩ := trodAll_nil r2
    obtain rfl : args = #[v0, v1, v2] := by cases args; simp_all
    obtain ⟨A0, raw, c0, rfl, hc0, hraw, hok⟩ := open_arg Try.underlying22 (hval 0 _ v0 rfl rfl) (by kernel_rfl) (by decide) (opens_slice Try.underlying39 (by kernel_rfl) (by decide) (opens_int Try.underlying5)) h0
    obtain ⟨A1, to, c1, rfl, hc1, hto, _⟩ := open_arg Try.underlying27 (hval 1 _ v1 rfl rfl) (by kernel_rfl) (by decide) (opens_bool Try.underlying4) h1
    obtain ⟨most, rfl, rfl, rfl, hwf⟩ := open_int Try.underlying36 (hval 2 _ v2 rfl rfl) h2
    have hm := wf_i8' hwf
    refine (More.more_walk hraw (fun r hr x hx => ?_) hto hm.1 hm.2).mono fun e W' ⟨he, hb⟩ => ⟨he, hb.below⟩
    obtain ⟨e, he⟩ := hok.all r hr
    obtain ⟨e', he'⟩ := he.all x hx
    exact wf_u8' he'
theorem over : Rows.forwardMoreRow.holds Try.pinned (OpenSpec.ofChange Rows.forwardMoreSpec) :=
  OpenClaim.holds_of_wide 6 Try.f6 rfl rfl rfl rfl rfl rfl rfl ⟨rfl, rfl, rfl, rfl, rfl⟩ rfl rfl rfl rfl rfl (by kernel_rfl) Try.func6 (by kernel_rfl)
    (of_decide_eq_true (by kernel_rfl)) (by unfold Func.isWrapper; first | (rw [if_pos (by decide +kernel)]; kernel_rfl) | (rw [if_neg (by decide +kernel)]; exact ⟨rfl, rfl⟩))
    (fun os started H enc _ => lifted os started H enc)
theorem proved : Rows.ForwardMoreSaid := over
#print axioms proved
end Go.Proofs.Ytmegjmiiiecnoaa.forwardMore
