/- The law ForwardHops of layer 21 answers true for every input: each slice of slices of bytes, each slice of bools and each number of 8 bits; and leaves them as they were. No condition. -/
import Derived.Test.YtmegjmiiiecnoaaRows
import Derived.Test.YtmegjmiiiecnoaaHops
import Derived.Test.YtmegjmiiiecnoaaOpen
namespace Go.Proofs.Ytmegjmiiiecnoaa.forwardHops
open Go.ChangeShapes Go.WideShapes Go.ChangeAt Go.RowKit Go.Proofs.Ytmegjmiiiecnoaa.Mq Go.Proofs.Ytmegjmiiiecnoaa.Open 
set_option linter.unusedVariables false
theorem own : ownKnob Try.prog.godebug = none := by kernel_rfl
theorem laidOut : laidOutB Try.prog = true := by kernel_rfl
set_option maxRecDepth 100000 in
theorem lifted (os : Os) (started : os.Started) (H : Type) (enc : TypeId × Value → H) :
    ReturnsInHanded {} Try.checked os 5 .any (Rows.forwardHopsSpec.pre6 enc Try.prog Try.f5 Rows.forwardHopsRow.domain false) (Rows.forwardHopsSpec.post enc Try.prog Try.f5 false true false false) := by
  refine lifted_of_walk (C := Try.checked) (tb := 4) own started (by kernel_rfl) Try.func5 laidOut rfl ?_ rfl Try.underlying4 ?_ (ChangeSpec.witness6 (enc := enc) (C := Try.checked) false ⟨#[], #[.slice none 0 0, .slice none 0 0, .int .i8 0], []⟩ 8 (by kernel_rfl) (by kernel_rfl) (by kernel_rfl) (by kernel_rfl)) ?_
  · intro ds h
    match ds, h with
    | [d0, d1, d2], _ => rfl
  · intro t ht
    have : t = 22 ∨ t = 27 ∨ t = 36 := by simpa [Try.f5] using ht
    rcases this with rfl | rfl | rfl
    · exact ⟨by kernel_rfl, of_decide_eq_true (by kernel_rfl)⟩
    · exact ⟨by kernel_rfl, of_decide_eq_true (by kernel_rfl)⟩
    · exact ⟨by kernel_rfl, of_decide_eq_true (by kernel_rfl)⟩
  · intro W base args ds p hval0 hA0 hsz0
    have hval : ∀ (j : Nat) t v, Try.f5.params[j]? = some t → args[j]? = some v → Value.okWide Try.prog W .any base t v := hval0
    have hA : DataW.TrodAll enc Try.prog W 0 (fun _ => true) true Try.f5.params.toList args.toList ds p := hA0
    rw [Try.params5] at hA hval
    obtain ⟨v0, vs0, d0, ds0, p0, q0, hargs, rfl, rfl, h0, r0⟩ := trodAll_cons hA
    obtain ⟨v1, vs1, d1, ds1, p1, q1, rfl, rfl, rfl, h1, r1⟩ := trodAll_cons r0
    obtain ⟨v2, vs2, d2, ds2, p2, q2, rfl, rfl, rfl, h2, r2⟩ := trodAll_cons r1
    obtain ⟨rfl, rfl, rfl⟩ := trodAll_nil r2
    obtain rfl : args = #[v0, v1, v2] := by cases args; simp_all
    obtain ⟨A0, raw, c0, rfl, hc0, hr0, hok0⟩ := open_arg Try.underlying22 (hval 0 _ v0 rfl rfl) (by kernel_rfl) (by decide) (opens_slice Try.underlying39 (by kernel_rfl) (by decide) (opens_int Try.underlying5)) h0
    obtain ⟨A1, to, c1, rfl, hc1, hr1, hok1⟩ := open_arg Try.underlying27 (hval 1 _ v1 rfl rfl) (by kernel_rfl) (by decide) (opens_bool Try.underlying4) h1
    obtain ⟨most, rfl, rfl, rfl, hw2⟩ := open_int Try.underlying36 (hval 2 _ v2 rfl rfl) h2
    have hm := wf_i8' hw2
    have htl : to.length ≤ 140737488351232 := by
      rcases hok1 with ⟨_, rfl⟩ | ⟨es, rest, rfl, hl, _⟩
      · simp
      · have hb : Try.prog.bytesOf 4 = 1 := by kernel_rfl
        have hs := sized_slice hsz0 (j := 1) (t := 27) (e := 4) rfl rfl Try.underlying27
        rw [show Try.checked.prog.bytesOf 4 = 1 from hb] at hs
        have : reachBytes = 140737488351232 := rfl
        omega
    refine (Hops.hops_walk hr0 (fun r hr x hx => ?_) hr1 hm.1 hm.2 htl).mono fun e W' ⟨he, hb⟩ => ⟨he, hb.below⟩
    obtain ⟨e, he⟩ := hok0.all r hr
    obtain ⟨e', he'⟩ := he.all x hx
    exact wf_u8' he'
theorem over : Rows.forwardHopsRow.holds Try.pinned (OpenSpec.ofChange Rows.forwardHopsSpec) :=
  OpenClaim.holds_of_wide 5 Try.f5 rfl rfl rfl rfl rfl rfl rfl ⟨rfl, rfl, rfl, rfl, rfl⟩ rfl rfl rfl rfl rfl (by kernel_rfl) Try.func5 (by kernel_rfl)
    (of_decide_eq_true (by kernel_rfl)) (by unfold Func.isWrapper; first | (rw [if_pos (by decide +kernel)]; kernel_rfl) | (rw [if_neg (by decide +kernel)]; exact ⟨rfl, rfl⟩))
    (fun os started H enc _ => lifted os started H enc)
theorem proved : Rows.ForwardHopsSaid := over
#print axioms proved
end Go.Proofs.Ytmegjmiiiecnoaa.forwardHops
