/- The law LiftOwn of layer 23 answers true for every input of little bulk, and leaves it as it was: answers and a number of 8 bits. Condition: what comes in holds together at most 1048576 values and letters. -/
import Derived.Test.YtkhbpjhlekldpaaRows
import Derived.Test.YtkhbpjhlekldpaaLiftO
import Derived.Test.YtkhbpjhlekldpaaOpenK
namespace Go.Proofs.Ytkhbpjhlekldpaa.liftOwn
open Go.ChangeShapes Go.WideShapes Go.ChangeAt Go.RowKit Go.Proofs.Ytkhbpjhlekldpaa.Open Go.Proofs.Ytkhbpjhlekldpaa.OpenK Go.Proofs.Ytkhbpjhlekldpaa.PLift
open Go.Proofs.YtkhbpjhlekldpaaW.PrintWords (Kd)
set_option linter.unusedVariables false
theorem own : ownKnob Try.prog.godebug = none := by kernel_rfl
theorem laidOut : laidOutB Try.prog = true := by kernel_rfl
def ok_S64 {H : Type} (y : S64) (D : DataW H) : Prop := ∃ D0 D1 D2, D = .agg [D0, D1, D2] ∧ (fun (y : Bool) D => D = .lit (.bool y)) y.f0 D0  ∧ (fun (y : Bool) D => D = .lit (.bool y)) y.f1 D1  ∧ (OkRow (fun (y : Int) D => (Lit.int .i64 y).wf = true ∧ D = .lit (.int .i64 y))) y.f2 D2
theorem opens_S64 {H : Type} {enc : TypeId × Value → H} {w : World} {base : Nat} {spare : Nat → Bool} {held : Bool} : Opens enc Try.prog w base spare held 64 k64 ok_S64 := by
  intro n cs x h
  obtain ⟨xs, n_, _, rfl, hl, hlen, hf⟩ := DataW.trod_struct Try.underlying64 h
  match xs, hlen with
  | [y0, y1, y2], _ =>
    obtain ⟨x0, k0, o0⟩ := (show Opens enc Try.prog w base spare held _ Kd.bool (fun (y : Bool) D => D = .lit (.bool y)) from (opens_bool Try.underlying4)) _ _ _ ((hf 0 _ rfl).trans rfl)
    obtain ⟨x1, k1, o1⟩ := (show Opens enc Try.prog w base spare held _ Kd.bool (fun (y : Bool) D => D = .lit (.bool y)) from (opens_bool Try.underlying4)) _ _ _ ((hf 1 _ rfl).trans rfl)
    obtain ⟨x2, k2, o2⟩ := (show Opens enc Try.prog w base spare held _ (Kd.slice 3 (Kd.int .i64)) (OkRow (fun (y : Int) D => (Lit.int .i64 y).wf = true ∧ D = .lit (.int .i64 y))) from (opens_slice Try.underlying29 (by kernel_rfl) (opens_int Try.underlying3))) _ _ _ ((hf 2 _ rfl).trans rfl)
    refine ⟨⟨x0, x1, x2⟩, ?_, y0.1, y1.1, y2.1, rfl, o0, o1, o2⟩
    exact (pair_at (by kernel_rfl) k0 (pair_at (by kernel_rfl) k1 (last_at hl (by kernel_rfl) k2)))
set_option maxRecDepth 100000 in
theorem lifted (os : Os) (started : os.Started) (H : Type) (enc : TypeId × Value → H) (F : Stop.Interp) :
    ReturnsInHanded {} Try.checked os 7 .any ((Rows.OpenSpec.upto Rows.liftOwnSpec).pre6 enc Try.prog Try.f7 Rows.liftOwnUptoRow.domain false) (((Rows.OpenSpec.upto Rows.liftOwnSpec).at F).post enc Try.prog Try.f7 false true false false) := by
  refine lifted_of_walk_upto (C := Try.checked) (tb := 4) own started (by kernel_rfl) Try.func7 laidOut rfl ?_ rfl Try.underlying4 ?_
    (OpenSpec.witness (enc := enc) (C := Try.checked) (s := Rows.OpenSpec.upto Rows.liftOwnSpec) (k := Rows.uptoSmall) rfl false ⟨#[], #[.slice none 0 0, .int .u8 0], []⟩ 8 (by kernel_rfl) (by kernel_rfl) (by kernel_rfl)
      (x := ([.nil, .lit (.int .u8 0)], [], [])) (by kernel_rfl) rfl (by kernel_rfl)) ?_
  · intro ds h
    match ds, h with
    | [d0, d1], _ => rfl
  · intro t ht
    have : t = 59 ∨ t = 5 := by simpa [Try.f7] using ht
    rcases this with rfl | rfl
    · exact ⟨by kernel_rfl, of_decide_eq_true (by kernel_rfl)⟩
    · exact ⟨by kernel_rfl, of_decide_eq_true (by kernel_rfl)⟩
  · intro W base args ds p hval0 hA0 hbulk
    have hval : ∀ (j : Nat) t v, Try.f7.params[j]? = some t → args[j]? = some v → Value.okWide Try.prog W .any base t v := hval0
    have hA : DataW.TrodAll enc Try.prog W 0 (fun _ => true) true Try.f7.params.toList args.toList ds p := hA0
    rw [Try.params7] at hA hval
    obtain ⟨v0, vs0, d0, ds0, p0, q0, hargs, rfl, rfl, h0, r0⟩ := trodAll_cons hA
    obtain ⟨v1, vs1, d1, ds1, p1, q1, rfl, rfl, rfl, h1, r1⟩ := trodAll_cons r0
    obtain ⟨rfl, rfl, rfl⟩ := trodAll_nil r1
    obtain rfl : args = #[v0, v1] := by cases args; simp_all
    clear hA0 hval0
    obtain ⟨A0, ans, c0, rfl, hc0, hr0, hok0⟩ := open_sl Try.underlying59 (hval 0 _ v0 rfl rfl) (by kernel_rfl) (show Opens enc Try.prog W 0 (fun _ => true) true _ k64 ok_S64 from opens_S64) h0
    obtain ⟨at0, rfl, rfl, rfl, hw1⟩ := open_int Try.underlying5 (hval 1 _ v1 rfl rfl) h1
    simp only [Rows.uptoBulkAll] at hbulk
    have e0 : ans.length ≤ 1048576 := by have := OkRow.length_le hok0; omega
    have e1 : ∀ x ∈ ans, x.f2.length ≤ 1048576 := by
      have e2 := OkRow.part_le (f := fun (x : S64) => x.f2.length) hok0 (by
        rintro y e ⟨D0, D1, D2, rfl, _, _, o2⟩
        have := OkRow.length_le o2
        simp only [Rows.uptoBulk, Rows.uptoBulkAll]
        omega)
      intro x hx
      have := e2 x hx
      omega
    obtain ⟨k, hk⟩ := LiftQ.lown ans at0 (wf_u8' hw1).1 (wf_u8' hw1).2 e0 e1
    exact (maquettelaw23_LiftOwn.calls k _ _ ans at0 true W hr0 hc0 hk).mono fun e W' ⟨he, hb⟩ => ⟨he, hb⟩
theorem over : Rows.liftOwnUptoRow.holds Try.pinned (Rows.OpenSpec.upto Rows.liftOwnSpec) :=
  OpenClaim.holds_of_cond 7 Try.f7 rfl rfl rfl rfl rfl rfl rfl ⟨rfl, rfl, rfl, rfl, rfl⟩ rfl rfl rfl rfl rfl (by kernel_rfl) Try.func7 (by kernel_rfl)
    (of_decide_eq_true (by kernel_rfl)) (by unfold Func.isWrapper; first | (rw [if_pos (by decide +kernel)]; kernel_rfl) | (rw [if_neg (by decide +kernel)]; exact ⟨rfl, rfl⟩))
    (fun os started H enc _ F => lifted os started H enc F)
theorem proved : Rows.LiftOwnUptoSaid := over
#print axioms proved
end Go.Proofs.Ytkhbpjhlekldpaa.liftOwn
